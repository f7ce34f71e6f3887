-- Written by a program of this session for this claim (mp.py, over the kit's print); Lean checks it.
import Derived.Test.YthghacojbhjeaaaPLtx0
import Derived.Test.YthghacojbhjeaaaPLtx3
import Derived.Test.YthghacojbhjeaaaPLtx4
import Derived.Test.YthghacojbhjeaaaPLtx5
import Derived.Test.YthghacojbhjeaaaPLtx8
import Derived.Test.YthghacojbhjeaaaPLtx10
import Derived.Test.YthghacojbhjeaaaPLtx13
import Derived.Test.YthghacojbhjeaaaPLtx14
namespace Go.Proofs.Ythghacojbhjeaaa.PLt
open Go.RowKit Go.Proofs.YthghacojbhjeaaaW.PrintWords Go.Proofs.YthghacojbhjeaaaW.PrintLast Go.Proofs.YthghacojbhjeaaaW.PrintMore Go.Proofs.Ythghacojbhjeaaa.Fv Go.Proofs.Ythghacojbhjeaaa.Hl
attribute [local go_sem] max2_int min2_int max_two min_two max_three min_three max_four min_four str_gtr str_leq str_geq cell_set2   -- for this text's walks alone
set_option linter.unusedVariables false
set_option linter.unusedSimpArgs false

/-! ### letter_Check: function 14 -/
def letter_Check.f (k : Nat) (a0_0 : Int) (a0_1 : Int) (a0_2 : Int) (a0_3 : Int) (a0_4 : Int) (a0_5 : Int) (a0_6 : Int) (a0_7 : ByteArray) (a0_8 : ByteArray) (l0_9 : List (S39)) (l0_10 : List (S41)) (a0_11 : Int) (a0_12 : Bool) (a0_13 : ByteArray) : Option (Int) := (letter_Pack.f k a0_0 a0_1 a0_2 a0_3 a0_4 a0_5 a0_6 a0_7 a0_8 l0_9 l0_10 a0_11 a0_12 a0_13).bind fun bt349 => (some bt349.2)
theorem letter_Check.mono : ∀ a0 a1 a2 a3 a4 a5 a6 a7 a8 a9 a10 a11 a12 a13 k, LeO (letter_Check.f k a0 a1 a2 a3 a4 a5 a6 a7 a8 a9 a10 a11 a12 a13) (letter_Check.f (k + 1) a0 a1 a2 a3 a4 a5 a6 a7 a8 a9 a10 a11 a12 a13) := by
 intro a0 a1 a2 a3 a4 a5 a6 a7 a8 a9 a10 a11 a12 a13 k
 unfold letter_Check.f
 repeat' first
   | (with_reducible exact letter_Pack.mono _ _ _ _ _ _ _ _ _ _ _ _ _ _ _)
   | (with_reducible exact LeO.refl _)
   | (with_reducible exact LeO.none _)
   | (with_reducible refine LeO.ite ?_ ?_)
   | (with_reducible refine LeO.bind ?_ (fun _ => ?_))
   | exact letter_Pack.mono _ _ _ _ _ _ _ _ _ _ _ _ _ _ _
   | exact LeO.none _
   | refine LeO.ite ?_ ?_
   | refine LeO.bind ?_ (fun _ => ?_)
set_option maxHeartbeats 8000000 in
set_option maxRecDepth 100000 in
theorem letter_Check.calls (k : Nat) (a0_0 : Int) (a0_1 : Int) (a0_2 : Int) (a0_3 : Int) (a0_4 : Int) (a0_5 : Int) (a0_6 : Int) (a0_7 : ByteArray) (a0_8 : ByteArray) (A0_9 : Option Addr) (c0_9 : Nat) (l0_9 : List (S39)) (A0_10 : Option Addr) (c0_10 : Nat) (l0_10 : List (S41)) (a0_11 : Int) (a0_12 : Bool) (a0_13 : ByteArray) (r : Int) (w : World) (hr0_9 : Kd.C k39 w A0_9 l0_9.length l0_9) (hc0_9 : l0_9.length ≤ c0_9) (hr0_10 : Kd.C k41 w A0_10 l0_10.length l0_10) (hc0_10 : l0_10.length ≤ c0_10) (h : letter_Check.f k a0_0 a0_1 a0_2 a0_3 a0_4 a0_5 a0_6 a0_7 a0_8 l0_9 l0_10 a0_11 a0_12 a0_13 = some r) :
  Calls Try.prog 14 #[.agg #[.int .i64 a0_0, .int .i64 a0_1, .int .i64 a0_2, .int .i64 a0_3, .int .i64 a0_4, .int .i64 a0_5, .int .i64 a0_6, .string a0_7, .string a0_8, .slice A0_9 l0_9.length c0_9, .slice A0_10 l0_10.length c0_10, .int .i64 a0_11, .bool a0_12, .string a0_13]] w fun e w' => e = .returned (.int .i64 r) ∧ Below w.heap.size w w' := by
 have hu27 := Try.underlying27
 have HR0_9 := Aside0.mk hr0_9
 have HC0_9 := Aside0.mk hc0_9
 clear hr0_9 hc0_9
 have HR0_10 := Aside0.mk hr0_10
 have HC0_10 := Aside0.mk hc0_10
 clear hr0_10 hc0_10
 have HB := Aside0.mk (Below.refl w.heap.size w)
 have H : ((letter_Pack.f k a0_0 a0_1 a0_2 a0_3 a0_4 a0_5 a0_6 a0_7 a0_8 l0_9 l0_10 a0_11 a0_12 a0_13).bind fun bt349 => (some bt349.2)) = some r := h
 clear h
 replace H := Option.bind_eq_some_iff.mp H
 obtain ⟨⟨t349, t350⟩, A20, H⟩ := H
 replace H : (some t350) = some r := H
 have A2 := Aside0.mk A20
 clear A20
 obtain rfl := Option.some.inj H
 simp only [Option.some.injEq, Prod.mk.injEq] at H
 obtain ⟨rfl⟩ := H
 go_enter Try.func14, Try.ntmps14
 go_wp2_with (first | ((with_reducible refine gate_dst (N := 1) rfl ?_); refine box_event ?hg (N := 1) ?hd (cs := #[.int .i64 a0_0, .int .i64 a0_1, .int .i64 a0_2, .int .i64 a0_3, .int .i64 a0_4, .int .i64 a0_5, .int .i64 a0_6, .string a0_7, .string a0_8, .slice A0_9 l0_9.length c0_9, .slice A0_10 l0_10.length c0_10, .int .i64 a0_11, .bool a0_12, .string a0_13]) (t := 27) ?hr ?_; (case hd => rfl); (case hg => rfl); (case hr => first | (go_simp; done) | (go_simp; rfl)); intro gb348 hg w3 hbox hb; have n0_ := Aside0.mk (below_step (hL HB.out) hb); have n1_ := Aside0.mk (hbox); have n2_ := Above.mk ((by rw [hg]; exact (below_size (hL HB.out)) : w.heap.size ≤ gb348)); have n3_ := Above.mk ((by rw [hg]; exact (below_size (hL HB.out)) : w.heap.size ≤ gb348)); clear HB; have HB := n0_; have BK348 := n1_; have GW348 := n2_; have GE348 := n3_; clear n0_ n1_ n2_ n3_; clear hb hbox hg; have hcz4_0 : w3.cell? ⟨gb348, 0, none⟩ = some (.int .i64 a0_0) := (blk_cell BK348.out 0).trans rfl; have hcz4_1 : w3.cell? ⟨gb348, 1, none⟩ = some (.int .i64 a0_1) := (blk_cell BK348.out 1).trans rfl; have hcz4_2 : w3.cell? ⟨gb348, 2, none⟩ = some (.int .i64 a0_2) := (blk_cell BK348.out 2).trans rfl; have hcz4_3 : w3.cell? ⟨gb348, 3, none⟩ = some (.int .i64 a0_3) := (blk_cell BK348.out 3).trans rfl; have hcz4_4 : w3.cell? ⟨gb348, 4, none⟩ = some (.int .i64 a0_4) := (blk_cell BK348.out 4).trans rfl; have hcz4_5 : w3.cell? ⟨gb348, 5, none⟩ = some (.int .i64 a0_5) := (blk_cell BK348.out 5).trans rfl; have hcz4_6 : w3.cell? ⟨gb348, 6, none⟩ = some (.int .i64 a0_6) := (blk_cell BK348.out 6).trans rfl; have hcz4_7 : w3.cell? ⟨gb348, 7, none⟩ = some (.string a0_7) := (blk_cell BK348.out 7).trans rfl; have hcz4_8 : w3.cell? ⟨gb348, 8, none⟩ = some (.string a0_8) := (blk_cell BK348.out 8).trans rfl; have hcz4_9 : w3.cell? ⟨gb348, 9, none⟩ = some (.slice A0_9 l0_9.length c0_9) := (blk_cell BK348.out 9).trans rfl; have hcz4_10 : w3.cell? ⟨gb348, 10, none⟩ = some (.slice A0_10 l0_10.length c0_10) := (blk_cell BK348.out 10).trans rfl; have hcz4_11 : w3.cell? ⟨gb348, 11, none⟩ = some (.int .i64 a0_11) := (blk_cell BK348.out 11).trans rfl; have hcz4_12 : w3.cell? ⟨gb348, 12, none⟩ = some (.bool a0_12) := (blk_cell BK348.out 12).trans rfl; have hcz4_13 : w3.cell? ⟨gb348, 13, none⟩ = some (.string a0_13) := (blk_cell BK348.out 13).trans rfl; have hfz4_0 := blk_frozen BK348.out 0; have hfz4_1 := blk_frozen BK348.out 1; have hfz4_2 := blk_frozen BK348.out 2; have hfz4_3 := blk_frozen BK348.out 3; have hfz4_4 := blk_frozen BK348.out 4; have hfz4_5 := blk_frozen BK348.out 5; have hfz4_6 := blk_frozen BK348.out 6; have hfz4_7 := blk_frozen BK348.out 7; have hfz4_8 := blk_frozen BK348.out 8; have hfz4_9 := blk_frozen BK348.out 9; have hfz4_10 := blk_frozen BK348.out 10; have hfz4_11 := blk_frozen BK348.out 11; have hfz4_12 := blk_frozen BK348.out 12; have hfz4_13 := blk_frozen BK348.out 13) | ((with_reducible refine gate_callee (f := 11) rfl ?_); refine goesL_ (some 7) rfl rfl Try.func11 (by kernel_rfl) rfl #[.agg #[.int .i64 a0_0, .int .i64 a0_1, .int .i64 a0_2, .int .i64 a0_3, .int .i64 a0_4, .int .i64 a0_5, .int .i64 a0_6, .string a0_7, .string a0_8, .slice A0_9 l0_9.length c0_9, .slice A0_10 l0_10.length c0_10, .int .i64 a0_11, .bool a0_12, .string a0_13]] rfl (by (try simp only [List.map_toArray, List.map_cons, List.map_nil]); first | done | rfl | (simp only [List.length_drop, List.length_take]; rfl)) ?_; (with_reducible refine (letter_Pack.calls k a0_0 a0_1 a0_2 a0_3 a0_4 a0_5 a0_6 a0_7 a0_8 _ _ l0_9 _ _ l0_10 a0_11 a0_12 a0_13 t349 t350 _ ?side1 ?side2 ?side3 ?side4 A2.out).mono ?_); (case side1 => repeat (first | exact (Kd.C_below HR0_9.out HB.out) | (with_reducible refine Kd.C_alloc ?_ _) | (with_reducible refine Kd.C_drewN ?_ _) | (with_reducible refine Kd.C_drew ?_))); (case side2 => exact HC0_9.out); (case side3 => repeat (first | exact (Kd.C_below HR0_10.out HB.out) | (with_reducible refine Kd.C_alloc ?_ _) | (with_reducible refine Kd.C_drewN ?_ _) | (with_reducible refine Kd.C_drew ?_))); (case side4 => exact HC0_10.out); rintro e w5 ⟨rfl, hb⟩; refine ⟨_, rfl, ?_⟩; have n0_ := Aside0.mk (blk_below (bL BK348.out) hb); have n1_ := Aside0.mk (below_step (hL HB.out) hb); clear BK348; clear HB; have BK348 := n0_; have HB := n1_; clear n0_ n1_; (try clear hb); (try clear hb2); (try clear hk); (try clear hi)))
 go_ret
 exact ⟨by first | rfl | (simp [errW_none, errW_some] <;> rfl) | (simp [*, errW_none, errW_some] <;> rfl), hL HB.out⟩

/-! ### shelfmarklaw13_LetterPacks: function 5 -/
def shelfmarklaw13_LetterPacks.j0 : Nat → ByteArray → Int → Bool → Int → Int → Int → Int → Int → Int → Int → ByteArray → ByteArray → List (S39) → List (S41) → Int → Bool → ByteArray → Option (Bool)
 | 0, _, _, _, _, _, _, _, _, _, _, _, _, _, _, _, _, _ => none
 | k + 1, x3, x4, x36, x352000, x352001, x352002, x352003, x352004, x352005, x352006, x352007, x352008, x352009, x352010, x352011, x352012, x352013 => if x36 = true then (some false) else (if x4 = 0 then ((letter_Unpack.f k x3).bind fun bt359 => (if bt359.2.2.2.2.2.2.2.2.2.2.2.2.2.2 = 0 then ((shelfmarkref13_Same.f k bt359.1 bt359.2.1 bt359.2.2.1 bt359.2.2.2.1 bt359.2.2.2.2.1 bt359.2.2.2.2.2.1 bt359.2.2.2.2.2.2.1 bt359.2.2.2.2.2.2.2.1 bt359.2.2.2.2.2.2.2.2.1 bt359.2.2.2.2.2.2.2.2.2.1 bt359.2.2.2.2.2.2.2.2.2.2.1 bt359.2.2.2.2.2.2.2.2.2.2.2.1 bt359.2.2.2.2.2.2.2.2.2.2.2.2.1 bt359.2.2.2.2.2.2.2.2.2.2.2.2.2.1 x352000 x352001 x352002 x352003 x352004 x352005 x352006 x352007 x352008 x352009 x352010 x352011 x352012 x352013).bind fun t379 => (some t379)) else (some false))) else (some true))
def shelfmarklaw13_LetterPacks.f (k : Nat) (a0_0 : Int) (a0_1 : Int) (a0_2 : Int) (a0_3 : Int) (a0_4 : Int) (a0_5 : Int) (a0_6 : Int) (a0_7 : ByteArray) (a0_8 : ByteArray) (l0_9 : List (S39)) (l0_10 : List (S41)) (a0_11 : Int) (a0_12 : Bool) (a0_13 : ByteArray) : Option (Bool) := (shelfmarklaw13_awake.f k).bind fun t352 => (if t352 = true then ((shelfmarkref13_Light.f k a0_0 a0_1 a0_2 a0_3 a0_4 a0_5 a0_6 a0_7 a0_8 l0_9 l0_10 a0_11 a0_12 a0_13).bind fun t353 => (if t353 = true then ((letter_Pack.f k a0_0 a0_1 a0_2 a0_3 a0_4 a0_5 a0_6 a0_7 a0_8 l0_9 l0_10 a0_11 a0_12 a0_13).bind fun bt354 => ((shelfmarkref13_Pack.f k a0_0 a0_1 a0_2 a0_3 a0_4 a0_5 a0_6 a0_7 a0_8 l0_9 l0_10 a0_11 a0_12 a0_13).bind fun bt356 => (if bt354.1.toList = bt356.1.toList then (if bt354.2 = bt356.2 then ((letter_Check.f k a0_0 a0_1 a0_2 a0_3 a0_4 a0_5 a0_6 a0_7 a0_8 l0_9 l0_10 a0_11 a0_12 a0_13).bind fun t358 => (shelfmarklaw13_LetterPacks.j0 k bt354.1 bt354.2 (t358 != bt356.2) a0_0 a0_1 a0_2 a0_3 a0_4 a0_5 a0_6 a0_7 a0_8 l0_9 l0_10 a0_11 a0_12 a0_13)) else (shelfmarklaw13_LetterPacks.j0 k bt354.1 bt354.2 true a0_0 a0_1 a0_2 a0_3 a0_4 a0_5 a0_6 a0_7 a0_8 l0_9 l0_10 a0_11 a0_12 a0_13)) else (shelfmarklaw13_LetterPacks.j0 k bt354.1 bt354.2 true a0_0 a0_1 a0_2 a0_3 a0_4 a0_5 a0_6 a0_7 a0_8 l0_9 l0_10 a0_11 a0_12 a0_13)))) else (some true))) else (some false))
theorem shelfmarklaw13_LetterPacks.mono_l : ∀ k, (∀ y0 y1 y2 y3 y4 y5 y6 y7 y8 y9 y10 y11 y12 y13 y14 y15 y16, LeO (shelfmarklaw13_LetterPacks.j0 k y0 y1 y2 y3 y4 y5 y6 y7 y8 y9 y10 y11 y12 y13 y14 y15 y16) (shelfmarklaw13_LetterPacks.j0 (k + 1) y0 y1 y2 y3 y4 y5 y6 y7 y8 y9 y10 y11 y12 y13 y14 y15 y16))
 | 0 => fun _ _ _ _ _ _ _ _ _ _ _ _ _ _ _ _ _ r h => by simp [shelfmarklaw13_LetterPacks.j0] at h
 | k + 1 => by
  have ih0 := shelfmarklaw13_LetterPacks.mono_l k
  ·intro y0 y1 y2 y3 y4 y5 y6 y7 y8 y9 y10 y11 y12 y13 y14 y15 y16
   unfold shelfmarklaw13_LetterPacks.j0
   repeat' first
   | (with_reducible exact ih0 _ _ _ _ _ _ _ _ _ _ _ _ _ _ _ _ _)
   | (with_reducible exact letter_Check.mono _ _ _ _ _ _ _ _ _ _ _ _ _ _ _)
   | (with_reducible exact letter_Pack.mono _ _ _ _ _ _ _ _ _ _ _ _ _ _ _)
   | (with_reducible exact letter_Unpack.mono _ _)
   | (with_reducible exact shelfmarklaw13_awake.mono _)
   | (with_reducible exact shelfmarkref13_Light.mono _ _ _ _ _ _ _ _ _ _ _ _ _ _ _)
   | (with_reducible exact shelfmarkref13_Pack.mono _ _ _ _ _ _ _ _ _ _ _ _ _ _ _)
   | (with_reducible exact shelfmarkref13_Same.mono _ _ _ _ _ _ _ _ _ _ _ _ _ _ _ _ _ _ _ _ _ _ _ _ _ _ _ _ _)
   | (with_reducible exact LeO.refl _)
   | (with_reducible exact LeO.none _)
   | (with_reducible refine LeO.ite ?_ ?_)
   | (with_reducible refine LeO.bind ?_ (fun _ => ?_))
   | exact ih0 _ _ _ _ _ _ _ _ _ _ _ _ _ _ _ _ _
   | exact letter_Check.mono _ _ _ _ _ _ _ _ _ _ _ _ _ _ _
   | exact letter_Pack.mono _ _ _ _ _ _ _ _ _ _ _ _ _ _ _
   | exact letter_Unpack.mono _ _
   | exact shelfmarklaw13_awake.mono _
   | exact shelfmarkref13_Light.mono _ _ _ _ _ _ _ _ _ _ _ _ _ _ _
   | exact shelfmarkref13_Pack.mono _ _ _ _ _ _ _ _ _ _ _ _ _ _ _
   | exact shelfmarkref13_Same.mono _ _ _ _ _ _ _ _ _ _ _ _ _ _ _ _ _ _ _ _ _ _ _ _ _ _ _ _ _
   | exact LeO.none _
   | refine LeO.ite ?_ ?_
   | refine LeO.bind ?_ (fun _ => ?_)
theorem shelfmarklaw13_LetterPacks.mono : ∀ a0 a1 a2 a3 a4 a5 a6 a7 a8 a9 a10 a11 a12 a13 k, LeO (shelfmarklaw13_LetterPacks.f k a0 a1 a2 a3 a4 a5 a6 a7 a8 a9 a10 a11 a12 a13) (shelfmarklaw13_LetterPacks.f (k + 1) a0 a1 a2 a3 a4 a5 a6 a7 a8 a9 a10 a11 a12 a13) := by
 intro a0 a1 a2 a3 a4 a5 a6 a7 a8 a9 a10 a11 a12 a13 k
 have ih0 := shelfmarklaw13_LetterPacks.mono_l k
 unfold shelfmarklaw13_LetterPacks.f
 repeat' first
   | (with_reducible exact ih0 _ _ _ _ _ _ _ _ _ _ _ _ _ _ _ _ _)
   | (with_reducible exact letter_Check.mono _ _ _ _ _ _ _ _ _ _ _ _ _ _ _)
   | (with_reducible exact letter_Pack.mono _ _ _ _ _ _ _ _ _ _ _ _ _ _ _)
   | (with_reducible exact letter_Unpack.mono _ _)
   | (with_reducible exact shelfmarklaw13_awake.mono _)
   | (with_reducible exact shelfmarkref13_Light.mono _ _ _ _ _ _ _ _ _ _ _ _ _ _ _)
   | (with_reducible exact shelfmarkref13_Pack.mono _ _ _ _ _ _ _ _ _ _ _ _ _ _ _)
   | (with_reducible exact shelfmarkref13_Same.mono _ _ _ _ _ _ _ _ _ _ _ _ _ _ _ _ _ _ _ _ _ _ _ _ _ _ _ _ _)
   | (with_reducible exact LeO.refl _)
   | (with_reducible exact LeO.none _)
   | (with_reducible refine LeO.ite ?_ ?_)
   | (with_reducible refine LeO.bind ?_ (fun _ => ?_))
   | exact ih0 _ _ _ _ _ _ _ _ _ _ _ _ _ _ _ _ _
   | exact letter_Check.mono _ _ _ _ _ _ _ _ _ _ _ _ _ _ _
   | exact letter_Pack.mono _ _ _ _ _ _ _ _ _ _ _ _ _ _ _
   | exact letter_Unpack.mono _ _
   | exact shelfmarklaw13_awake.mono _
   | exact shelfmarkref13_Light.mono _ _ _ _ _ _ _ _ _ _ _ _ _ _ _
   | exact shelfmarkref13_Pack.mono _ _ _ _ _ _ _ _ _ _ _ _ _ _ _
   | exact shelfmarkref13_Same.mono _ _ _ _ _ _ _ _ _ _ _ _ _ _ _ _ _ _ _ _ _ _ _ _ _ _ _ _ _
   | exact LeO.none _
   | refine LeO.ite ?_ ?_
   | refine LeO.bind ?_ (fun _ => ?_)
set_option maxHeartbeats 8000000 in
set_option maxRecDepth 100000 in
theorem shelfmarklaw13_LetterPacks.calls (k : Nat) (a0_0 : Int) (a0_1 : Int) (a0_2 : Int) (a0_3 : Int) (a0_4 : Int) (a0_5 : Int) (a0_6 : Int) (a0_7 : ByteArray) (a0_8 : ByteArray) (A0_9 : Option Addr) (c0_9 : Nat) (l0_9 : List (S39)) (A0_10 : Option Addr) (c0_10 : Nat) (l0_10 : List (S41)) (a0_11 : Int) (a0_12 : Bool) (a0_13 : ByteArray) (r : Bool) (w : World) (hr0_9 : Kd.C k39 w A0_9 l0_9.length l0_9) (hc0_9 : l0_9.length ≤ c0_9) (hr0_10 : Kd.C k41 w A0_10 l0_10.length l0_10) (hc0_10 : l0_10.length ≤ c0_10) (h : shelfmarklaw13_LetterPacks.f k a0_0 a0_1 a0_2 a0_3 a0_4 a0_5 a0_6 a0_7 a0_8 l0_9 l0_10 a0_11 a0_12 a0_13 = some r) (hlaw : r = true) :
  Calls Try.prog 5 #[.agg #[.int .i64 a0_0, .int .i64 a0_1, .int .i64 a0_2, .int .i64 a0_3, .int .i64 a0_4, .int .i64 a0_5, .int .i64 a0_6, .string a0_7, .string a0_8, .slice A0_9 l0_9.length c0_9, .slice A0_10 l0_10.length c0_10, .int .i64 a0_11, .bool a0_12, .string a0_13]] w fun e w' => e = .returned (.bool r) ∧ Below w.heap.size w w' := by
 have HLAW := Aside0.mk hlaw
 clear hlaw
 have hu27 := Try.underlying27
 have HR0_9 := Aside0.mk hr0_9
 have HC0_9 := Aside0.mk hc0_9
 clear hr0_9 hc0_9
 have HR0_10 := Aside0.mk hr0_10
 have HC0_10 := Aside0.mk hc0_10
 clear hr0_10 hc0_10
 have HB := Aside0.mk (Below.refl w.heap.size w)
 have H : ((shelfmarklaw13_awake.f k).bind fun t352 => (if t352 = true then ((shelfmarkref13_Light.f k a0_0 a0_1 a0_2 a0_3 a0_4 a0_5 a0_6 a0_7 a0_8 l0_9 l0_10 a0_11 a0_12 a0_13).bind fun t353 => (if t353 = true then ((letter_Pack.f k a0_0 a0_1 a0_2 a0_3 a0_4 a0_5 a0_6 a0_7 a0_8 l0_9 l0_10 a0_11 a0_12 a0_13).bind fun bt354 => ((shelfmarkref13_Pack.f k a0_0 a0_1 a0_2 a0_3 a0_4 a0_5 a0_6 a0_7 a0_8 l0_9 l0_10 a0_11 a0_12 a0_13).bind fun bt356 => (if bt354.1.toList = bt356.1.toList then (if bt354.2 = bt356.2 then ((letter_Check.f k a0_0 a0_1 a0_2 a0_3 a0_4 a0_5 a0_6 a0_7 a0_8 l0_9 l0_10 a0_11 a0_12 a0_13).bind fun t358 => (shelfmarklaw13_LetterPacks.j0 k bt354.1 bt354.2 (t358 != bt356.2) a0_0 a0_1 a0_2 a0_3 a0_4 a0_5 a0_6 a0_7 a0_8 l0_9 l0_10 a0_11 a0_12 a0_13)) else (shelfmarklaw13_LetterPacks.j0 k bt354.1 bt354.2 true a0_0 a0_1 a0_2 a0_3 a0_4 a0_5 a0_6 a0_7 a0_8 l0_9 l0_10 a0_11 a0_12 a0_13)) else (shelfmarklaw13_LetterPacks.j0 k bt354.1 bt354.2 true a0_0 a0_1 a0_2 a0_3 a0_4 a0_5 a0_6 a0_7 a0_8 l0_9 l0_10 a0_11 a0_12 a0_13)))) else (some true))) else (some false))) = some r := h
 clear h
 replace H := Option.bind_eq_some_iff.mp H
 obtain ⟨t352, A20, H⟩ := H
 replace H : (if t352 = true then ((shelfmarkref13_Light.f k a0_0 a0_1 a0_2 a0_3 a0_4 a0_5 a0_6 a0_7 a0_8 l0_9 l0_10 a0_11 a0_12 a0_13).bind fun t353 => (if t353 = true then ((letter_Pack.f k a0_0 a0_1 a0_2 a0_3 a0_4 a0_5 a0_6 a0_7 a0_8 l0_9 l0_10 a0_11 a0_12 a0_13).bind fun bt354 => ((shelfmarkref13_Pack.f k a0_0 a0_1 a0_2 a0_3 a0_4 a0_5 a0_6 a0_7 a0_8 l0_9 l0_10 a0_11 a0_12 a0_13).bind fun bt356 => (if bt354.1.toList = bt356.1.toList then (if bt354.2 = bt356.2 then ((letter_Check.f k a0_0 a0_1 a0_2 a0_3 a0_4 a0_5 a0_6 a0_7 a0_8 l0_9 l0_10 a0_11 a0_12 a0_13).bind fun t358 => (shelfmarklaw13_LetterPacks.j0 k bt354.1 bt354.2 (t358 != bt356.2) a0_0 a0_1 a0_2 a0_3 a0_4 a0_5 a0_6 a0_7 a0_8 l0_9 l0_10 a0_11 a0_12 a0_13)) else (shelfmarklaw13_LetterPacks.j0 k bt354.1 bt354.2 true a0_0 a0_1 a0_2 a0_3 a0_4 a0_5 a0_6 a0_7 a0_8 l0_9 l0_10 a0_11 a0_12 a0_13)) else (shelfmarklaw13_LetterPacks.j0 k bt354.1 bt354.2 true a0_0 a0_1 a0_2 a0_3 a0_4 a0_5 a0_6 a0_7 a0_8 l0_9 l0_10 a0_11 a0_12 a0_13)))) else (some true))) else (some false)) = some r := H
 have A2 := Aside0.mk A20
 clear A20
 by_cases c3 : t352 = true
 rotate_left
 ·replace c3 := Bool.eq_false_iff.mpr c3
  subst c3
  have H1 : (some false) = some r := by rw [if_neg (show ¬ (false = true) by decide)] at H; exact H
  clear H
  have H := H1
  clear H1
  obtain rfl := Option.some.inj H
  exact absurd HLAW.out (by decide)
 subst c3
 have H1 : ((shelfmarkref13_Light.f k a0_0 a0_1 a0_2 a0_3 a0_4 a0_5 a0_6 a0_7 a0_8 l0_9 l0_10 a0_11 a0_12 a0_13).bind fun t353 => (if t353 = true then ((letter_Pack.f k a0_0 a0_1 a0_2 a0_3 a0_4 a0_5 a0_6 a0_7 a0_8 l0_9 l0_10 a0_11 a0_12 a0_13).bind fun bt354 => ((shelfmarkref13_Pack.f k a0_0 a0_1 a0_2 a0_3 a0_4 a0_5 a0_6 a0_7 a0_8 l0_9 l0_10 a0_11 a0_12 a0_13).bind fun bt356 => (if bt354.1.toList = bt356.1.toList then (if bt354.2 = bt356.2 then ((letter_Check.f k a0_0 a0_1 a0_2 a0_3 a0_4 a0_5 a0_6 a0_7 a0_8 l0_9 l0_10 a0_11 a0_12 a0_13).bind fun t358 => (shelfmarklaw13_LetterPacks.j0 k bt354.1 bt354.2 (t358 != bt356.2) a0_0 a0_1 a0_2 a0_3 a0_4 a0_5 a0_6 a0_7 a0_8 l0_9 l0_10 a0_11 a0_12 a0_13)) else (shelfmarklaw13_LetterPacks.j0 k bt354.1 bt354.2 true a0_0 a0_1 a0_2 a0_3 a0_4 a0_5 a0_6 a0_7 a0_8 l0_9 l0_10 a0_11 a0_12 a0_13)) else (shelfmarklaw13_LetterPacks.j0 k bt354.1 bt354.2 true a0_0 a0_1 a0_2 a0_3 a0_4 a0_5 a0_6 a0_7 a0_8 l0_9 l0_10 a0_11 a0_12 a0_13)))) else (some true))) = some r := by rw [if_pos rfl] at H; exact H
 clear H
 have H := H1
 clear H1
 replace H := Option.bind_eq_some_iff.mp H
 obtain ⟨t353, A40, H⟩ := H
 replace H : (if t353 = true then ((letter_Pack.f k a0_0 a0_1 a0_2 a0_3 a0_4 a0_5 a0_6 a0_7 a0_8 l0_9 l0_10 a0_11 a0_12 a0_13).bind fun bt354 => ((shelfmarkref13_Pack.f k a0_0 a0_1 a0_2 a0_3 a0_4 a0_5 a0_6 a0_7 a0_8 l0_9 l0_10 a0_11 a0_12 a0_13).bind fun bt356 => (if bt354.1.toList = bt356.1.toList then (if bt354.2 = bt356.2 then ((letter_Check.f k a0_0 a0_1 a0_2 a0_3 a0_4 a0_5 a0_6 a0_7 a0_8 l0_9 l0_10 a0_11 a0_12 a0_13).bind fun t358 => (shelfmarklaw13_LetterPacks.j0 k bt354.1 bt354.2 (t358 != bt356.2) a0_0 a0_1 a0_2 a0_3 a0_4 a0_5 a0_6 a0_7 a0_8 l0_9 l0_10 a0_11 a0_12 a0_13)) else (shelfmarklaw13_LetterPacks.j0 k bt354.1 bt354.2 true a0_0 a0_1 a0_2 a0_3 a0_4 a0_5 a0_6 a0_7 a0_8 l0_9 l0_10 a0_11 a0_12 a0_13)) else (shelfmarklaw13_LetterPacks.j0 k bt354.1 bt354.2 true a0_0 a0_1 a0_2 a0_3 a0_4 a0_5 a0_6 a0_7 a0_8 l0_9 l0_10 a0_11 a0_12 a0_13)))) else (some true)) = some r := H
 have A4 := Aside0.mk A40
 clear A40
 by_cases c5 : t353 = true
 rotate_left
 ·replace c5 := Bool.eq_false_iff.mpr c5
  subst c5
  have H1 : (some true) = some r := by rw [if_neg (show ¬ (false = true) by decide)] at H; exact H
  clear H
  have H := H1
  clear H1
  obtain rfl := Option.some.inj H
  simp only [Option.some.injEq, Prod.mk.injEq] at H
  obtain ⟨rfl⟩ := H
  go_enter Try.func5, Try.ntmps5
  go_wp2_with (first | ((with_reducible refine gate_dst (N := 1) rfl ?_); refine box_event ?hg (N := 1) ?hd (cs := #[.int .i64 a0_0, .int .i64 a0_1, .int .i64 a0_2, .int .i64 a0_3, .int .i64 a0_4, .int .i64 a0_5, .int .i64 a0_6, .string a0_7, .string a0_8, .slice A0_9 l0_9.length c0_9, .slice A0_10 l0_10.length c0_10, .int .i64 a0_11, .bool a0_12, .string a0_13]) (t := 27) ?hr ?_; (case hd => rfl); (case hg => rfl); (case hr => first | (go_simp; done) | (go_simp; rfl)); intro gb351 hg w35 hbox hb; have n0_ := Aside0.mk (below_step (hL HB.out) hb); have n1_ := Aside0.mk (hbox); have n2_ := Above.mk ((by rw [hg]; exact (below_size (hL HB.out)) : w.heap.size ≤ gb351)); have n3_ := Above.mk ((by rw [hg]; exact (below_size (hL HB.out)) : w.heap.size ≤ gb351)); clear HB; have HB := n0_; have BK351 := n1_; have GW351 := n2_; have GE351 := n3_; clear n0_ n1_ n2_ n3_; clear hb hbox hg) | ((with_reducible refine gate_callee (f := 7) rfl ?_); refine goesL_ (some 8) rfl rfl Try.func7 (by kernel_rfl) rfl #[] rfl (by (try simp only [List.map_toArray, List.map_cons, List.map_nil]); first | done | rfl | (simp only [List.length_drop, List.length_take]; rfl)) ?_; (with_reducible refine (shelfmarklaw13_awake.calls k  true _ A2.out).mono ?_); rintro e w36 ⟨rfl, hb⟩; refine ⟨_, rfl, ?_⟩; have n0_ := Aside0.mk (blk_below (bL BK351.out) hb); have n1_ := Aside0.mk (below_step (hL HB.out) hb); clear BK351; clear HB; have BK351 := n0_; have HB := n1_; clear n0_ n1_; (try clear hb); (try clear hb2); (try clear hk); (try clear hi); have hcz37_0 : w36.cell? ⟨gb351, 0, none⟩ = some (.int .i64 a0_0) := (blk_cell BK351.out 0).trans rfl; have hcz37_1 : w36.cell? ⟨gb351, 1, none⟩ = some (.int .i64 a0_1) := (blk_cell BK351.out 1).trans rfl; have hcz37_2 : w36.cell? ⟨gb351, 2, none⟩ = some (.int .i64 a0_2) := (blk_cell BK351.out 2).trans rfl; have hcz37_3 : w36.cell? ⟨gb351, 3, none⟩ = some (.int .i64 a0_3) := (blk_cell BK351.out 3).trans rfl; have hcz37_4 : w36.cell? ⟨gb351, 4, none⟩ = some (.int .i64 a0_4) := (blk_cell BK351.out 4).trans rfl; have hcz37_5 : w36.cell? ⟨gb351, 5, none⟩ = some (.int .i64 a0_5) := (blk_cell BK351.out 5).trans rfl; have hcz37_6 : w36.cell? ⟨gb351, 6, none⟩ = some (.int .i64 a0_6) := (blk_cell BK351.out 6).trans rfl; have hcz37_7 : w36.cell? ⟨gb351, 7, none⟩ = some (.string a0_7) := (blk_cell BK351.out 7).trans rfl; have hcz37_8 : w36.cell? ⟨gb351, 8, none⟩ = some (.string a0_8) := (blk_cell BK351.out 8).trans rfl; have hcz37_9 : w36.cell? ⟨gb351, 9, none⟩ = some (.slice A0_9 l0_9.length c0_9) := (blk_cell BK351.out 9).trans rfl; have hcz37_10 : w36.cell? ⟨gb351, 10, none⟩ = some (.slice A0_10 l0_10.length c0_10) := (blk_cell BK351.out 10).trans rfl; have hcz37_11 : w36.cell? ⟨gb351, 11, none⟩ = some (.int .i64 a0_11) := (blk_cell BK351.out 11).trans rfl; have hcz37_12 : w36.cell? ⟨gb351, 12, none⟩ = some (.bool a0_12) := (blk_cell BK351.out 12).trans rfl; have hcz37_13 : w36.cell? ⟨gb351, 13, none⟩ = some (.string a0_13) := (blk_cell BK351.out 13).trans rfl; have hfz37_0 := blk_frozen BK351.out 0; have hfz37_1 := blk_frozen BK351.out 1; have hfz37_2 := blk_frozen BK351.out 2; have hfz37_3 := blk_frozen BK351.out 3; have hfz37_4 := blk_frozen BK351.out 4; have hfz37_5 := blk_frozen BK351.out 5; have hfz37_6 := blk_frozen BK351.out 6; have hfz37_7 := blk_frozen BK351.out 7; have hfz37_8 := blk_frozen BK351.out 8; have hfz37_9 := blk_frozen BK351.out 9; have hfz37_10 := blk_frozen BK351.out 10; have hfz37_11 := blk_frozen BK351.out 11; have hfz37_12 := blk_frozen BK351.out 12; have hfz37_13 := blk_frozen BK351.out 13) | ((with_reducible refine gate_callee (f := 12) rfl ?_); refine goesL_ (some 11) rfl rfl Try.func12 (by kernel_rfl) rfl #[.agg #[.int .i64 a0_0, .int .i64 a0_1, .int .i64 a0_2, .int .i64 a0_3, .int .i64 a0_4, .int .i64 a0_5, .int .i64 a0_6, .string a0_7, .string a0_8, .slice A0_9 l0_9.length c0_9, .slice A0_10 l0_10.length c0_10, .int .i64 a0_11, .bool a0_12, .string a0_13]] rfl (by (try simp only [List.map_toArray, List.map_cons, List.map_nil]); first | done | rfl | (simp only [List.length_drop, List.length_take]; rfl)) ?_; (with_reducible refine (shelfmarkref13_Light.calls k a0_0 a0_1 a0_2 a0_3 a0_4 a0_5 a0_6 a0_7 a0_8 _ _ l0_9 _ _ l0_10 a0_11 a0_12 a0_13 false _ ?side1 ?side2 ?side3 ?side4 A4.out).mono ?_); (case side1 => repeat (first | exact (Kd.C_below HR0_9.out HB.out) | (with_reducible refine Kd.C_alloc ?_ _) | (with_reducible refine Kd.C_drewN ?_ _) | (with_reducible refine Kd.C_drew ?_))); (case side2 => exact HC0_9.out); (case side3 => repeat (first | exact (Kd.C_below HR0_10.out HB.out) | (with_reducible refine Kd.C_alloc ?_ _) | (with_reducible refine Kd.C_drewN ?_ _) | (with_reducible refine Kd.C_drew ?_))); (case side4 => exact HC0_10.out); rintro e w38 ⟨rfl, hb⟩; refine ⟨_, rfl, ?_⟩; have n0_ := Aside0.mk (blk_below (bL BK351.out) hb); have n1_ := Aside0.mk (below_step (hL HB.out) hb); clear BK351; clear HB; have BK351 := n0_; have HB := n1_; clear n0_ n1_; (try clear hb); (try clear hb2); (try clear hk); (try clear hi)))
  go_ret
  exact ⟨by first | rfl | (simp [errW_none, errW_some] <;> rfl) | (simp [*, errW_none, errW_some] <;> rfl), hL HB.out⟩
 subst c5
 have H1 : ((letter_Pack.f k a0_0 a0_1 a0_2 a0_3 a0_4 a0_5 a0_6 a0_7 a0_8 l0_9 l0_10 a0_11 a0_12 a0_13).bind fun bt354 => ((shelfmarkref13_Pack.f k a0_0 a0_1 a0_2 a0_3 a0_4 a0_5 a0_6 a0_7 a0_8 l0_9 l0_10 a0_11 a0_12 a0_13).bind fun bt356 => (if bt354.1.toList = bt356.1.toList then (if bt354.2 = bt356.2 then ((letter_Check.f k a0_0 a0_1 a0_2 a0_3 a0_4 a0_5 a0_6 a0_7 a0_8 l0_9 l0_10 a0_11 a0_12 a0_13).bind fun t358 => (shelfmarklaw13_LetterPacks.j0 k bt354.1 bt354.2 (t358 != bt356.2) a0_0 a0_1 a0_2 a0_3 a0_4 a0_5 a0_6 a0_7 a0_8 l0_9 l0_10 a0_11 a0_12 a0_13)) else (shelfmarklaw13_LetterPacks.j0 k bt354.1 bt354.2 true a0_0 a0_1 a0_2 a0_3 a0_4 a0_5 a0_6 a0_7 a0_8 l0_9 l0_10 a0_11 a0_12 a0_13)) else (shelfmarklaw13_LetterPacks.j0 k bt354.1 bt354.2 true a0_0 a0_1 a0_2 a0_3 a0_4 a0_5 a0_6 a0_7 a0_8 l0_9 l0_10 a0_11 a0_12 a0_13)))) = some r := by rw [if_pos rfl] at H; exact H
 clear H
 have H := H1
 clear H1
 replace H := Option.bind_eq_some_iff.mp H
 obtain ⟨⟨t354, t355⟩, A60, H⟩ := H
 replace H : ((shelfmarkref13_Pack.f k a0_0 a0_1 a0_2 a0_3 a0_4 a0_5 a0_6 a0_7 a0_8 l0_9 l0_10 a0_11 a0_12 a0_13).bind fun bt356 => (if t354.toList = bt356.1.toList then (if t355 = bt356.2 then ((letter_Check.f k a0_0 a0_1 a0_2 a0_3 a0_4 a0_5 a0_6 a0_7 a0_8 l0_9 l0_10 a0_11 a0_12 a0_13).bind fun t358 => (shelfmarklaw13_LetterPacks.j0 k t354 t355 (t358 != bt356.2) a0_0 a0_1 a0_2 a0_3 a0_4 a0_5 a0_6 a0_7 a0_8 l0_9 l0_10 a0_11 a0_12 a0_13)) else (shelfmarklaw13_LetterPacks.j0 k t354 t355 true a0_0 a0_1 a0_2 a0_3 a0_4 a0_5 a0_6 a0_7 a0_8 l0_9 l0_10 a0_11 a0_12 a0_13)) else (shelfmarklaw13_LetterPacks.j0 k t354 t355 true a0_0 a0_1 a0_2 a0_3 a0_4 a0_5 a0_6 a0_7 a0_8 l0_9 l0_10 a0_11 a0_12 a0_13))) = some r := H
 have A6 := Aside0.mk A60
 clear A60
 replace H := Option.bind_eq_some_iff.mp H
 obtain ⟨⟨t356, t357⟩, A70, H⟩ := H
 replace H : (if t354.toList = t356.toList then (if t355 = t357 then ((letter_Check.f k a0_0 a0_1 a0_2 a0_3 a0_4 a0_5 a0_6 a0_7 a0_8 l0_9 l0_10 a0_11 a0_12 a0_13).bind fun t358 => (shelfmarklaw13_LetterPacks.j0 k t354 t355 (t358 != t357) a0_0 a0_1 a0_2 a0_3 a0_4 a0_5 a0_6 a0_7 a0_8 l0_9 l0_10 a0_11 a0_12 a0_13)) else (shelfmarklaw13_LetterPacks.j0 k t354 t355 true a0_0 a0_1 a0_2 a0_3 a0_4 a0_5 a0_6 a0_7 a0_8 l0_9 l0_10 a0_11 a0_12 a0_13)) else (shelfmarklaw13_LetterPacks.j0 k t354 t355 true a0_0 a0_1 a0_2 a0_3 a0_4 a0_5 a0_6 a0_7 a0_8 l0_9 l0_10 a0_11 a0_12 a0_13)) = some r := H
 have A7 := Aside0.mk A70
 clear A70
 have HC8 := Aside0.mk H
 clear H
 go_enter Try.func5, Try.ntmps5
 go_upto_region 7 with (first | ((with_reducible refine gate_dst (N := 1) rfl ?_); refine box_event ?hg (N := 1) ?hd (cs := #[.int .i64 a0_0, .int .i64 a0_1, .int .i64 a0_2, .int .i64 a0_3, .int .i64 a0_4, .int .i64 a0_5, .int .i64 a0_6, .string a0_7, .string a0_8, .slice A0_9 l0_9.length c0_9, .slice A0_10 l0_10.length c0_10, .int .i64 a0_11, .bool a0_12, .string a0_13]) (t := 27) ?hr ?_; (case hd => rfl); (case hg => rfl); (case hr => first | (go_simp; done) | (go_simp; rfl)); intro gb351 hg w9 hbox hb; have n0_ := Aside0.mk (below_step (hL HB.out) hb); have n1_ := Aside0.mk (hbox); have n2_ := Above.mk ((by rw [hg]; exact (below_size (hL HB.out)) : w.heap.size ≤ gb351)); have n3_ := Above.mk ((by rw [hg]; exact (below_size (hL HB.out)) : w.heap.size ≤ gb351)); clear HB; have HB := n0_; have BK351 := n1_; have GW351 := n2_; have GE351 := n3_; clear n0_ n1_ n2_ n3_; clear hb hbox hg) | ((with_reducible refine gate_callee (f := 7) rfl ?_); refine goesL_ (some 8) rfl rfl Try.func7 (by kernel_rfl) rfl #[] rfl (by (try simp only [List.map_toArray, List.map_cons, List.map_nil]); first | done | rfl | (simp only [List.length_drop, List.length_take]; rfl)) ?_; (with_reducible refine (shelfmarklaw13_awake.calls k  true _ A2.out).mono ?_); rintro e w10 ⟨rfl, hb⟩; refine ⟨_, rfl, ?_⟩; have n0_ := Aside0.mk (blk_below (bL BK351.out) hb); have n1_ := Aside0.mk (below_step (hL HB.out) hb); clear BK351; clear HB; have BK351 := n0_; have HB := n1_; clear n0_ n1_; (try clear hb); (try clear hb2); (try clear hk); (try clear hi); have hcz11_0 : w10.cell? ⟨gb351, 0, none⟩ = some (.int .i64 a0_0) := (blk_cell BK351.out 0).trans rfl; have hcz11_1 : w10.cell? ⟨gb351, 1, none⟩ = some (.int .i64 a0_1) := (blk_cell BK351.out 1).trans rfl; have hcz11_2 : w10.cell? ⟨gb351, 2, none⟩ = some (.int .i64 a0_2) := (blk_cell BK351.out 2).trans rfl; have hcz11_3 : w10.cell? ⟨gb351, 3, none⟩ = some (.int .i64 a0_3) := (blk_cell BK351.out 3).trans rfl; have hcz11_4 : w10.cell? ⟨gb351, 4, none⟩ = some (.int .i64 a0_4) := (blk_cell BK351.out 4).trans rfl; have hcz11_5 : w10.cell? ⟨gb351, 5, none⟩ = some (.int .i64 a0_5) := (blk_cell BK351.out 5).trans rfl; have hcz11_6 : w10.cell? ⟨gb351, 6, none⟩ = some (.int .i64 a0_6) := (blk_cell BK351.out 6).trans rfl; have hcz11_7 : w10.cell? ⟨gb351, 7, none⟩ = some (.string a0_7) := (blk_cell BK351.out 7).trans rfl; have hcz11_8 : w10.cell? ⟨gb351, 8, none⟩ = some (.string a0_8) := (blk_cell BK351.out 8).trans rfl; have hcz11_9 : w10.cell? ⟨gb351, 9, none⟩ = some (.slice A0_9 l0_9.length c0_9) := (blk_cell BK351.out 9).trans rfl; have hcz11_10 : w10.cell? ⟨gb351, 10, none⟩ = some (.slice A0_10 l0_10.length c0_10) := (blk_cell BK351.out 10).trans rfl; have hcz11_11 : w10.cell? ⟨gb351, 11, none⟩ = some (.int .i64 a0_11) := (blk_cell BK351.out 11).trans rfl; have hcz11_12 : w10.cell? ⟨gb351, 12, none⟩ = some (.bool a0_12) := (blk_cell BK351.out 12).trans rfl; have hcz11_13 : w10.cell? ⟨gb351, 13, none⟩ = some (.string a0_13) := (blk_cell BK351.out 13).trans rfl; have hfz11_0 := blk_frozen BK351.out 0; have hfz11_1 := blk_frozen BK351.out 1; have hfz11_2 := blk_frozen BK351.out 2; have hfz11_3 := blk_frozen BK351.out 3; have hfz11_4 := blk_frozen BK351.out 4; have hfz11_5 := blk_frozen BK351.out 5; have hfz11_6 := blk_frozen BK351.out 6; have hfz11_7 := blk_frozen BK351.out 7; have hfz11_8 := blk_frozen BK351.out 8; have hfz11_9 := blk_frozen BK351.out 9; have hfz11_10 := blk_frozen BK351.out 10; have hfz11_11 := blk_frozen BK351.out 11; have hfz11_12 := blk_frozen BK351.out 12; have hfz11_13 := blk_frozen BK351.out 13) | ((with_reducible refine gate_callee (f := 12) rfl ?_); refine goesL_ (some 11) rfl rfl Try.func12 (by kernel_rfl) rfl #[.agg #[.int .i64 a0_0, .int .i64 a0_1, .int .i64 a0_2, .int .i64 a0_3, .int .i64 a0_4, .int .i64 a0_5, .int .i64 a0_6, .string a0_7, .string a0_8, .slice A0_9 l0_9.length c0_9, .slice A0_10 l0_10.length c0_10, .int .i64 a0_11, .bool a0_12, .string a0_13]] rfl (by (try simp only [List.map_toArray, List.map_cons, List.map_nil]); first | done | rfl | (simp only [List.length_drop, List.length_take]; rfl)) ?_; (with_reducible refine (shelfmarkref13_Light.calls k a0_0 a0_1 a0_2 a0_3 a0_4 a0_5 a0_6 a0_7 a0_8 _ _ l0_9 _ _ l0_10 a0_11 a0_12 a0_13 true _ ?side1 ?side2 ?side3 ?side4 A4.out).mono ?_); (case side1 => repeat (first | exact (Kd.C_below HR0_9.out HB.out) | (with_reducible refine Kd.C_alloc ?_ _) | (with_reducible refine Kd.C_drewN ?_ _) | (with_reducible refine Kd.C_drew ?_))); (case side2 => exact HC0_9.out); (case side3 => repeat (first | exact (Kd.C_below HR0_10.out HB.out) | (with_reducible refine Kd.C_alloc ?_ _) | (with_reducible refine Kd.C_drewN ?_ _) | (with_reducible refine Kd.C_drew ?_))); (case side4 => exact HC0_10.out); rintro e w12 ⟨rfl, hb⟩; refine ⟨_, rfl, ?_⟩; have n0_ := Aside0.mk (blk_below (bL BK351.out) hb); have n1_ := Aside0.mk (below_step (hL HB.out) hb); clear BK351; clear HB; have BK351 := n0_; have HB := n1_; clear n0_ n1_; (try clear hb); (try clear hb2); (try clear hk); (try clear hi); have hcz13_0 : w12.cell? ⟨gb351, 0, none⟩ = some (.int .i64 a0_0) := (blk_cell BK351.out 0).trans rfl; have hcz13_1 : w12.cell? ⟨gb351, 1, none⟩ = some (.int .i64 a0_1) := (blk_cell BK351.out 1).trans rfl; have hcz13_2 : w12.cell? ⟨gb351, 2, none⟩ = some (.int .i64 a0_2) := (blk_cell BK351.out 2).trans rfl; have hcz13_3 : w12.cell? ⟨gb351, 3, none⟩ = some (.int .i64 a0_3) := (blk_cell BK351.out 3).trans rfl; have hcz13_4 : w12.cell? ⟨gb351, 4, none⟩ = some (.int .i64 a0_4) := (blk_cell BK351.out 4).trans rfl; have hcz13_5 : w12.cell? ⟨gb351, 5, none⟩ = some (.int .i64 a0_5) := (blk_cell BK351.out 5).trans rfl; have hcz13_6 : w12.cell? ⟨gb351, 6, none⟩ = some (.int .i64 a0_6) := (blk_cell BK351.out 6).trans rfl; have hcz13_7 : w12.cell? ⟨gb351, 7, none⟩ = some (.string a0_7) := (blk_cell BK351.out 7).trans rfl; have hcz13_8 : w12.cell? ⟨gb351, 8, none⟩ = some (.string a0_8) := (blk_cell BK351.out 8).trans rfl; have hcz13_9 : w12.cell? ⟨gb351, 9, none⟩ = some (.slice A0_9 l0_9.length c0_9) := (blk_cell BK351.out 9).trans rfl; have hcz13_10 : w12.cell? ⟨gb351, 10, none⟩ = some (.slice A0_10 l0_10.length c0_10) := (blk_cell BK351.out 10).trans rfl; have hcz13_11 : w12.cell? ⟨gb351, 11, none⟩ = some (.int .i64 a0_11) := (blk_cell BK351.out 11).trans rfl; have hcz13_12 : w12.cell? ⟨gb351, 12, none⟩ = some (.bool a0_12) := (blk_cell BK351.out 12).trans rfl; have hcz13_13 : w12.cell? ⟨gb351, 13, none⟩ = some (.string a0_13) := (blk_cell BK351.out 13).trans rfl; have hfz13_0 := blk_frozen BK351.out 0; have hfz13_1 := blk_frozen BK351.out 1; have hfz13_2 := blk_frozen BK351.out 2; have hfz13_3 := blk_frozen BK351.out 3; have hfz13_4 := blk_frozen BK351.out 4; have hfz13_5 := blk_frozen BK351.out 5; have hfz13_6 := blk_frozen BK351.out 6; have hfz13_7 := blk_frozen BK351.out 7; have hfz13_8 := blk_frozen BK351.out 8; have hfz13_9 := blk_frozen BK351.out 9; have hfz13_10 := blk_frozen BK351.out 10; have hfz13_11 := blk_frozen BK351.out 11; have hfz13_12 := blk_frozen BK351.out 12; have hfz13_13 := blk_frozen BK351.out 13) | ((with_reducible refine gate_callee (f := 11) rfl ?_); refine goesL_ (some 15) rfl rfl Try.func11 (by kernel_rfl) rfl #[.agg #[.int .i64 a0_0, .int .i64 a0_1, .int .i64 a0_2, .int .i64 a0_3, .int .i64 a0_4, .int .i64 a0_5, .int .i64 a0_6, .string a0_7, .string a0_8, .slice A0_9 l0_9.length c0_9, .slice A0_10 l0_10.length c0_10, .int .i64 a0_11, .bool a0_12, .string a0_13]] rfl (by (try simp only [List.map_toArray, List.map_cons, List.map_nil]); first | done | rfl | (simp only [List.length_drop, List.length_take]; rfl)) ?_; (with_reducible refine (letter_Pack.calls k a0_0 a0_1 a0_2 a0_3 a0_4 a0_5 a0_6 a0_7 a0_8 _ _ l0_9 _ _ l0_10 a0_11 a0_12 a0_13 t354 t355 _ ?side1 ?side2 ?side3 ?side4 A6.out).mono ?_); (case side1 => repeat (first | exact (Kd.C_below HR0_9.out HB.out) | (with_reducible refine Kd.C_alloc ?_ _) | (with_reducible refine Kd.C_drewN ?_ _) | (with_reducible refine Kd.C_drew ?_))); (case side2 => exact HC0_9.out); (case side3 => repeat (first | exact (Kd.C_below HR0_10.out HB.out) | (with_reducible refine Kd.C_alloc ?_ _) | (with_reducible refine Kd.C_drewN ?_ _) | (with_reducible refine Kd.C_drew ?_))); (case side4 => exact HC0_10.out); rintro e w14 ⟨rfl, hb⟩; refine ⟨_, rfl, ?_⟩; have n0_ := Aside0.mk (blk_below (bL BK351.out) hb); have n1_ := Aside0.mk (below_step (hL HB.out) hb); clear BK351; clear HB; have BK351 := n0_; have HB := n1_; clear n0_ n1_; (try clear hb); (try clear hb2); (try clear hk); (try clear hi); have hcz15_0 : w14.cell? ⟨gb351, 0, none⟩ = some (.int .i64 a0_0) := (blk_cell BK351.out 0).trans rfl; have hcz15_1 : w14.cell? ⟨gb351, 1, none⟩ = some (.int .i64 a0_1) := (blk_cell BK351.out 1).trans rfl; have hcz15_2 : w14.cell? ⟨gb351, 2, none⟩ = some (.int .i64 a0_2) := (blk_cell BK351.out 2).trans rfl; have hcz15_3 : w14.cell? ⟨gb351, 3, none⟩ = some (.int .i64 a0_3) := (blk_cell BK351.out 3).trans rfl; have hcz15_4 : w14.cell? ⟨gb351, 4, none⟩ = some (.int .i64 a0_4) := (blk_cell BK351.out 4).trans rfl; have hcz15_5 : w14.cell? ⟨gb351, 5, none⟩ = some (.int .i64 a0_5) := (blk_cell BK351.out 5).trans rfl; have hcz15_6 : w14.cell? ⟨gb351, 6, none⟩ = some (.int .i64 a0_6) := (blk_cell BK351.out 6).trans rfl; have hcz15_7 : w14.cell? ⟨gb351, 7, none⟩ = some (.string a0_7) := (blk_cell BK351.out 7).trans rfl; have hcz15_8 : w14.cell? ⟨gb351, 8, none⟩ = some (.string a0_8) := (blk_cell BK351.out 8).trans rfl; have hcz15_9 : w14.cell? ⟨gb351, 9, none⟩ = some (.slice A0_9 l0_9.length c0_9) := (blk_cell BK351.out 9).trans rfl; have hcz15_10 : w14.cell? ⟨gb351, 10, none⟩ = some (.slice A0_10 l0_10.length c0_10) := (blk_cell BK351.out 10).trans rfl; have hcz15_11 : w14.cell? ⟨gb351, 11, none⟩ = some (.int .i64 a0_11) := (blk_cell BK351.out 11).trans rfl; have hcz15_12 : w14.cell? ⟨gb351, 12, none⟩ = some (.bool a0_12) := (blk_cell BK351.out 12).trans rfl; have hcz15_13 : w14.cell? ⟨gb351, 13, none⟩ = some (.string a0_13) := (blk_cell BK351.out 13).trans rfl; have hfz15_0 := blk_frozen BK351.out 0; have hfz15_1 := blk_frozen BK351.out 1; have hfz15_2 := blk_frozen BK351.out 2; have hfz15_3 := blk_frozen BK351.out 3; have hfz15_4 := blk_frozen BK351.out 4; have hfz15_5 := blk_frozen BK351.out 5; have hfz15_6 := blk_frozen BK351.out 6; have hfz15_7 := blk_frozen BK351.out 7; have hfz15_8 := blk_frozen BK351.out 8; have hfz15_9 := blk_frozen BK351.out 9; have hfz15_10 := blk_frozen BK351.out 10; have hfz15_11 := blk_frozen BK351.out 11; have hfz15_12 := blk_frozen BK351.out 12; have hfz15_13 := blk_frozen BK351.out 13) | ((with_reducible refine gate_callee (f := 13) rfl ?_); refine goesL_ (some 20) rfl rfl Try.func13 (by kernel_rfl) rfl #[.agg #[.int .i64 a0_0, .int .i64 a0_1, .int .i64 a0_2, .int .i64 a0_3, .int .i64 a0_4, .int .i64 a0_5, .int .i64 a0_6, .string a0_7, .string a0_8, .slice A0_9 l0_9.length c0_9, .slice A0_10 l0_10.length c0_10, .int .i64 a0_11, .bool a0_12, .string a0_13]] rfl (by (try simp only [List.map_toArray, List.map_cons, List.map_nil]); first | done | rfl | (simp only [List.length_drop, List.length_take]; rfl)) ?_; (with_reducible refine (shelfmarkref13_Pack.calls k a0_0 a0_1 a0_2 a0_3 a0_4 a0_5 a0_6 a0_7 a0_8 _ _ l0_9 _ _ l0_10 a0_11 a0_12 a0_13 t356 t357 _ ?side1 ?side2 ?side3 ?side4 A7.out).mono ?_); (case side1 => repeat (first | exact (Kd.C_below HR0_9.out HB.out) | (with_reducible refine Kd.C_alloc ?_ _) | (with_reducible refine Kd.C_drewN ?_ _) | (with_reducible refine Kd.C_drew ?_))); (case side2 => exact HC0_9.out); (case side3 => repeat (first | exact (Kd.C_below HR0_10.out HB.out) | (with_reducible refine Kd.C_alloc ?_ _) | (with_reducible refine Kd.C_drewN ?_ _) | (with_reducible refine Kd.C_drew ?_))); (case side4 => exact HC0_10.out); rintro e w16 ⟨rfl, hb⟩; refine ⟨_, rfl, ?_⟩; have n0_ := Aside0.mk (blk_below (bL BK351.out) hb); have n1_ := Aside0.mk (below_step (hL HB.out) hb); clear BK351; clear HB; have BK351 := n0_; have HB := n1_; clear n0_ n1_; (try clear hb); (try clear hb2); (try clear hk); (try clear hi)))
 (try simp only [Act.put, sT, sZ, sS])
 go_cut [36] (fun v36 wc => ∃ (kq : Nat) (x36_7 : Bool), v36 = .bool x36_7 ∧ Aside0 (shelfmarklaw13_LetterPacks.j0 kq t354 t355 x36_7 a0_0 a0_1 a0_2 a0_3 a0_4 a0_5 a0_6 a0_7 a0_8 l0_9 l0_10 a0_11 a0_12 a0_13 = some r) ∧ Aside0 (kq ≤ k) ∧ Aside0 (wc.heap[gb351]? = some (.cells #[.int .i64 a0_0, .int .i64 a0_1, .int .i64 a0_2, .int .i64 a0_3, .int .i64 a0_4, .int .i64 a0_5, .int .i64 a0_6, .string a0_7, .string a0_8, (.slice A0_9 l0_9.length c0_9), (.slice A0_10 l0_10.length c0_10), .int .i64 a0_11, .bool a0_12, .string a0_13] 27 (0, 0))) ∧ Aside0 (Below w.heap.size w wc))
 case first =>
  have H := HC8.out
  clear HC8
  by_cases c17 : t354.toList = t356.toList
  rotate_left
  ·rw [if_neg c17] at H
   have c17b0 : (t354.toList == t356.toList) = false := beq_eq_false_iff_ne.mpr c17
   have c17b1 : (t354.toList != t356.toList) = true := bne_iff_ne.mpr c17
   (first | rw [c17b0] | (simp only [i64_w, i32_w]; rw [c17b0]) | skip)
   have H' := Aside0.mk H
   clear H
   go_wp2
   go_meet
   case rel => exact ⟨_, (true), (by first | rfl | (simp; done) | (simp [*]; done) | (simp [ne_nil_bytes]; done) | (simp [eq_nil_bytes]; done)), H', ⟨by first | omega | exact Nat.le_refl _⟩, ⟨by exact bL BK351.out⟩, ⟨hL HB.out⟩⟩
  rw [if_pos c17] at H
  have c17b0 : (t354.toList == t356.toList) = true := beq_iff_eq.mpr c17
  have c17b1 : (t354.toList != t356.toList) = false := bne_eq_false_iff_eq.mpr c17
  clear c17
  (first | rw [c17b0] | (simp only [i64_w, i32_w]; rw [c17b0]) | skip)
  by_cases c18 : t355 = t357
  rotate_left
  ·rw [if_neg c18] at H
   have c18b0 : (t355 == t357) = false := beq_eq_false_iff_ne.mpr c18
   have c18b1 : (t355 != t357) = true := bne_iff_ne.mpr c18
   have H' := Aside0.mk H
   clear H
   go_wp2
   go_meet
   case rel => exact ⟨_, (true), (by first | rfl | (simp; done) | (simp [*]; done) | (simp [ne_nil_bytes]; done) | (simp [eq_nil_bytes]; done)), H', ⟨by first | omega | exact Nat.le_refl _⟩, ⟨by exact bL BK351.out⟩, ⟨hL HB.out⟩⟩
  rw [if_pos c18] at H
  have c18b0 : (t355 == t357) = true := beq_iff_eq.mpr c18
  have c18b1 : (t355 != t357) = false := bne_eq_false_iff_eq.mpr c18
  clear c18
  replace H := Option.bind_eq_some_iff.mp H
  obtain ⟨t358, A190, H⟩ := H
  replace H : (shelfmarklaw13_LetterPacks.j0 k t354 t355 (t358 != t357) a0_0 a0_1 a0_2 a0_3 a0_4 a0_5 a0_6 a0_7 a0_8 l0_9 l0_10 a0_11 a0_12 a0_13) = some r := H
  have A19 := Aside0.mk A190
  clear A190
  have H' := Aside0.mk H
  clear H
  have hcz20_0 : w16.cell? ⟨gb351, 0, none⟩ = some (.int .i64 a0_0) := (blk_cell BK351.out 0).trans rfl
  have hcz20_1 : w16.cell? ⟨gb351, 1, none⟩ = some (.int .i64 a0_1) := (blk_cell BK351.out 1).trans rfl
  have hcz20_2 : w16.cell? ⟨gb351, 2, none⟩ = some (.int .i64 a0_2) := (blk_cell BK351.out 2).trans rfl
  have hcz20_3 : w16.cell? ⟨gb351, 3, none⟩ = some (.int .i64 a0_3) := (blk_cell BK351.out 3).trans rfl
  have hcz20_4 : w16.cell? ⟨gb351, 4, none⟩ = some (.int .i64 a0_4) := (blk_cell BK351.out 4).trans rfl
  have hcz20_5 : w16.cell? ⟨gb351, 5, none⟩ = some (.int .i64 a0_5) := (blk_cell BK351.out 5).trans rfl
  have hcz20_6 : w16.cell? ⟨gb351, 6, none⟩ = some (.int .i64 a0_6) := (blk_cell BK351.out 6).trans rfl
  have hcz20_7 : w16.cell? ⟨gb351, 7, none⟩ = some (.string a0_7) := (blk_cell BK351.out 7).trans rfl
  have hcz20_8 : w16.cell? ⟨gb351, 8, none⟩ = some (.string a0_8) := (blk_cell BK351.out 8).trans rfl
  have hcz20_9 : w16.cell? ⟨gb351, 9, none⟩ = some (.slice A0_9 l0_9.length c0_9) := (blk_cell BK351.out 9).trans rfl
  have hcz20_10 : w16.cell? ⟨gb351, 10, none⟩ = some (.slice A0_10 l0_10.length c0_10) := (blk_cell BK351.out 10).trans rfl
  have hcz20_11 : w16.cell? ⟨gb351, 11, none⟩ = some (.int .i64 a0_11) := (blk_cell BK351.out 11).trans rfl
  have hcz20_12 : w16.cell? ⟨gb351, 12, none⟩ = some (.bool a0_12) := (blk_cell BK351.out 12).trans rfl
  have hcz20_13 : w16.cell? ⟨gb351, 13, none⟩ = some (.string a0_13) := (blk_cell BK351.out 13).trans rfl
  have hfz20_0 := blk_frozen BK351.out 0
  have hfz20_1 := blk_frozen BK351.out 1
  have hfz20_2 := blk_frozen BK351.out 2
  have hfz20_3 := blk_frozen BK351.out 3
  have hfz20_4 := blk_frozen BK351.out 4
  have hfz20_5 := blk_frozen BK351.out 5
  have hfz20_6 := blk_frozen BK351.out 6
  have hfz20_7 := blk_frozen BK351.out 7
  have hfz20_8 := blk_frozen BK351.out 8
  have hfz20_9 := blk_frozen BK351.out 9
  have hfz20_10 := blk_frozen BK351.out 10
  have hfz20_11 := blk_frozen BK351.out 11
  have hfz20_12 := blk_frozen BK351.out 12
  have hfz20_13 := blk_frozen BK351.out 13
  go_wp2_with (first | (go_at_call 14; (with_reducible refine (letter_Check.calls k a0_0 a0_1 a0_2 a0_3 a0_4 a0_5 a0_6 a0_7 a0_8 _ _ l0_9 _ _ l0_10 a0_11 a0_12 a0_13 t358 _ ?side1 ?side2 ?side3 ?side4 A19.out).mono ?_); (case side1 => repeat (first | exact (Kd.C_below HR0_9.out HB.out) | (with_reducible refine Kd.C_alloc ?_ _) | (with_reducible refine Kd.C_drewN ?_ _) | (with_reducible refine Kd.C_drew ?_))); (case side2 => exact HC0_9.out); (case side3 => repeat (first | exact (Kd.C_below HR0_10.out HB.out) | (with_reducible refine Kd.C_alloc ?_ _) | (with_reducible refine Kd.C_drewN ?_ _) | (with_reducible refine Kd.C_drew ?_))); (case side4 => exact HC0_10.out); rintro e w21 ⟨rfl, hb⟩; have n0_ := Aside0.mk (blk_below (bL BK351.out) hb); have n1_ := Aside0.mk (below_step (hL HB.out) hb); clear BK351; clear HB; have BK351 := n0_; have HB := n1_; clear n0_ n1_; (try clear hb); (try clear hb2); (try clear hk); (try clear hi)))
  go_meet
  case rel => exact ⟨_, ((t358 != t357)), (by first | rfl | (simp; done) | (simp [*]; done) | (simp [ne_nil_bytes]; done) | (simp [eq_nil_bytes]; done)), H', ⟨by first | omega | exact Nat.le_refl _⟩, ⟨by exact bL BK351.out⟩, ⟨hL HB.out⟩⟩
 clear HC8
 try clear c1
 try clear p2
 try clear c3
 try clear c5
 try clear c7
 try clear c11
 try clear c12
 try clear c13
 try clear c17
 try clear c17b0
 try clear c17b0z
 try clear c17b1
 try clear c17b1z
 try clear c18
 try clear c18b0
 try clear c18b0z
 try clear c18b1
 try clear c18b1z
 try clear hcz11_0
 try clear hcz11_1
 try clear hcz11_10
 try clear hcz11_11
 try clear hcz11_12
 try clear hcz11_13
 try clear hcz11_2
 try clear hcz11_3
 try clear hcz11_4
 try clear hcz11_5
 try clear hcz11_6
 try clear hcz11_7
 try clear hcz11_8
 try clear hcz11_9
 try clear hcz13_0
 try clear hcz13_1
 try clear hcz13_10
 try clear hcz13_11
 try clear hcz13_12
 try clear hcz13_13
 try clear hcz13_2
 try clear hcz13_3
 try clear hcz13_4
 try clear hcz13_5
 try clear hcz13_6
 try clear hcz13_7
 try clear hcz13_8
 try clear hcz13_9
 try clear hcz15_0
 try clear hcz15_1
 try clear hcz15_10
 try clear hcz15_11
 try clear hcz15_12
 try clear hcz15_13
 try clear hcz15_2
 try clear hcz15_3
 try clear hcz15_4
 try clear hcz15_5
 try clear hcz15_6
 try clear hcz15_7
 try clear hcz15_8
 try clear hcz15_9
 try clear hcz20_0
 try clear hcz20_1
 try clear hcz20_10
 try clear hcz20_11
 try clear hcz20_12
 try clear hcz20_13
 try clear hcz20_2
 try clear hcz20_3
 try clear hcz20_4
 try clear hcz20_5
 try clear hcz20_6
 try clear hcz20_7
 try clear hcz20_8
 try clear hcz20_9
 try clear hfz11_0
 try clear hfz11_1
 try clear hfz11_10
 try clear hfz11_11
 try clear hfz11_12
 try clear hfz11_13
 try clear hfz11_2
 try clear hfz11_3
 try clear hfz11_4
 try clear hfz11_5
 try clear hfz11_6
 try clear hfz11_7
 try clear hfz11_8
 try clear hfz11_9
 try clear hfz13_0
 try clear hfz13_1
 try clear hfz13_10
 try clear hfz13_11
 try clear hfz13_12
 try clear hfz13_13
 try clear hfz13_2
 try clear hfz13_3
 try clear hfz13_4
 try clear hfz13_5
 try clear hfz13_6
 try clear hfz13_7
 try clear hfz13_8
 try clear hfz13_9
 try clear hfz15_0
 try clear hfz15_1
 try clear hfz15_10
 try clear hfz15_11
 try clear hfz15_12
 try clear hfz15_13
 try clear hfz15_2
 try clear hfz15_3
 try clear hfz15_4
 try clear hfz15_5
 try clear hfz15_6
 try clear hfz15_7
 try clear hfz15_8
 try clear hfz15_9
 try clear hfz20_0
 try clear hfz20_1
 try clear hfz20_10
 try clear hfz20_11
 try clear hfz20_12
 try clear hfz20_13
 try clear hfz20_2
 try clear hfz20_3
 try clear hfz20_4
 try clear hfz20_5
 try clear hfz20_6
 try clear hfz20_7
 try clear hfz20_8
 try clear hfz20_9
 obtain ⟨kq, x36_7, rfl, HA, HJ7, BK351, HB⟩ := hcut
 rcases kq with _ | kj7
 ·exact absurd HA.out (by simp [shelfmarklaw13_LetterPacks.j0])
 have H := HA.out
 clear HA
 simp only [shelfmarklaw13_LetterPacks.j0] at H
 by_cases c22 : x36_7 = true
 ·subst c22
  have H1 : (some false) = some r := by rw [if_pos rfl] at H; exact H
  clear H
  have H := H1
  clear H1
  obtain rfl := Option.some.inj H
  exact absurd HLAW.out (by decide)
 replace c22 := Bool.eq_false_iff.mpr c22
 subst c22
 have H1 : (if t355 = 0 then ((letter_Unpack.f kj7 t354).bind fun bt359 => (if bt359.2.2.2.2.2.2.2.2.2.2.2.2.2.2 = 0 then ((shelfmarkref13_Same.f kj7 bt359.1 bt359.2.1 bt359.2.2.1 bt359.2.2.2.1 bt359.2.2.2.2.1 bt359.2.2.2.2.2.1 bt359.2.2.2.2.2.2.1 bt359.2.2.2.2.2.2.2.1 bt359.2.2.2.2.2.2.2.2.1 bt359.2.2.2.2.2.2.2.2.2.1 bt359.2.2.2.2.2.2.2.2.2.2.1 bt359.2.2.2.2.2.2.2.2.2.2.2.1 bt359.2.2.2.2.2.2.2.2.2.2.2.2.1 bt359.2.2.2.2.2.2.2.2.2.2.2.2.2.1 a0_0 a0_1 a0_2 a0_3 a0_4 a0_5 a0_6 a0_7 a0_8 l0_9 l0_10 a0_11 a0_12 a0_13).bind fun t379 => (some t379)) else (some false))) else (some true)) = some r := by rw [if_neg (show ¬ (false = true) by decide)] at H; exact H
 clear H
 have H := H1
 clear H1
 by_cases c23 : t355 = 0
 rotate_left
 ·rw [if_neg c23] at H
  have c23b0 : (t355 == 0) = false := beq_eq_false_iff_ne.mpr c23
  have c23b1 : (t355 != 0) = true := bne_iff_ne.mpr c23
  obtain rfl := Option.some.inj H
  simp only [Option.some.injEq, Prod.mk.injEq] at H
  obtain ⟨rfl⟩ := H
  go_wp2
  go_ret
  exact ⟨by first | rfl | (simp [errW_none, errW_some] <;> rfl) | (simp [*, errW_none, errW_some] <;> rfl), hL HB.out⟩
 rw [if_pos c23] at H
 have c23b0 : (t355 == 0) = true := beq_iff_eq.mpr c23
 have c23b1 : (t355 != 0) = false := bne_eq_false_iff_eq.mpr c23
 clear c23
 replace H := Option.bind_eq_some_iff.mp H
 obtain ⟨⟨t359, t360, t361, t362, t363, t364, t365, t366, t367, t368, t371, t374, t375, t376, t377⟩, A240, H⟩ := H
 replace H : (if t377 = 0 then ((shelfmarkref13_Same.f kj7 t359 t360 t361 t362 t363 t364 t365 t366 t367 t368 t371 t374 t375 t376 a0_0 a0_1 a0_2 a0_3 a0_4 a0_5 a0_6 a0_7 a0_8 l0_9 l0_10 a0_11 a0_12 a0_13).bind fun t379 => (some t379)) else (some false)) = some r := H
 have A24 := Aside0.mk A240
 clear A240
 by_cases c25 : t377 = 0
 rotate_left
 ·rw [if_neg c25] at H
  have c25b0 : (t377 == 0) = false := beq_eq_false_iff_ne.mpr c25
  have c25b1 : (t377 != 0) = true := bne_iff_ne.mpr c25
  obtain rfl := Option.some.inj H
  exact absurd HLAW.out (by decide)
 rw [if_pos c25] at H
 have c25b0 : (t377 == 0) = true := beq_iff_eq.mpr c25
 have c25b1 : (t377 != 0) = false := bne_eq_false_iff_eq.mpr c25
 clear c25
 replace H := Option.bind_eq_some_iff.mp H
 obtain ⟨t379, A260, H⟩ := H
 replace H : (some t379) = some r := H
 have A26 := Aside0.mk A260
 clear A260
 obtain rfl := Option.some.inj H
 simp only [Option.some.injEq, Prod.mk.injEq] at H
 obtain ⟨rfl⟩ := H
 go_wp2_with (first | ((with_reducible refine gate_callee (f := 8) rfl ?_); refine goesL_ (some 41) rfl rfl Try.func8 (by kernel_rfl) rfl #[.string t354] rfl (by (try simp only [List.map_toArray, List.map_cons, List.map_nil]); first | done | rfl | (simp only [List.length_drop, List.length_take]; rfl)) ?_; (with_reducible refine (letter_Unpack.calls kj7 t354 t359 t360 t361 t362 t363 t364 t365 t366 t367 t368 t371 t374 t375 t376 t377 _ A24.out).mono ?_); rintro e w27 ⟨v369, v372, rfl, ho0, ho1, hb⟩; refine ⟨_, rfl, ?_⟩; have n0_ := Aside0.mk (Kd.R_lower ho0 (below_size (hL HB.out))); have n1_ := Aside0.mk (Kd.R_lower ho1 (below_size (hL HB.out))); have n2_ := Aside0.mk (blk_below (bL BK351.out) hb); have n3_ := Aside0.mk (below_step (hL HB.out) hb); clear BK351; clear HB; have HO370 := n0_; have HO373 := n1_; have BK351 := n2_; have HB := n3_; clear n0_ n1_ n2_ n3_; (try clear hb); (try clear hb2); (try clear hk); (try clear hi); (try clear ho0); (try clear ho1)) | ((with_reducible refine gate_dst (N := 7) rfl ?_); refine box_event ?hg (N := 7) ?hd (cs := #[.int .i64 0, .int .i64 0, .int .i64 0, .int .i64 0, .int .i64 0, .int .i64 0, .int .i64 0, .string (⟨#[]⟩ : ByteArray), .string (⟨#[]⟩ : ByteArray), .slice none 0 0, .slice none 0 0, .int .i64 0, .bool false, .string (⟨#[]⟩ : ByteArray)]) (t := 27) ?hr ?_; (case hd => rfl); (case hg => rfl); (case hr => first | (go_simp; done) | (go_simp; rfl)); intro gb378 hg w28 hbox hb; have n0_ := Aside0.mk (Kd.R_below (rL HO370.out) hb); have n1_ := Aside0.mk (Kd.R_below (rL HO373.out) hb); have n2_ := Aside0.mk (blk_below (bL BK351.out) hb); have n3_ := Aside0.mk (below_step (hL HB.out) hb); have n4_ := Aside0.mk (hbox); have n5_ := Above.mk ((by rw [hg]; exact (below_size (hL HB.out)) : w.heap.size ≤ gb378)); have n6_ := Above.mk ((by rw [hg]; exact (below_size (hL HB.out)) : w.heap.size ≤ gb378)); have n7_ := Aside0.mk ((by rw [hg]; exact Nat.ne_of_lt (blk_lt (g := gb351) (o := .cells #[.int .i64 a0_0, .int .i64 a0_1, .int .i64 a0_2, .int .i64 a0_3, .int .i64 a0_4, .int .i64 a0_5, .int .i64 a0_6, .string a0_7, .string a0_8, .slice A0_9 l0_9.length c0_9, .slice A0_10 l0_10.length c0_10, .int .i64 a0_11, .bool a0_12, .string a0_13] 27 (0, 0)) (bL BK351.out)) : gb351 ≠ gb378)); have n8_ := Aside0.mk ((by rw [hg]; exact Nat.ne_of_gt (blk_lt (g := gb351) (o := .cells #[.int .i64 a0_0, .int .i64 a0_1, .int .i64 a0_2, .int .i64 a0_3, .int .i64 a0_4, .int .i64 a0_5, .int .i64 a0_6, .string a0_7, .string a0_8, .slice A0_9 l0_9.length c0_9, .slice A0_10 l0_10.length c0_10, .int .i64 a0_11, .bool a0_12, .string a0_13] 27 (0, 0)) (bL BK351.out)) : gb378 ≠ gb351)); clear HO370; clear HO373; clear BK351; clear HB; have HO370 := n0_; have HO373 := n1_; have BK351 := n2_; have HB := n3_; have BK378 := n4_; have GW378 := n5_; have GE378 := n6_; have NB351_378 := n7_; have NB378_351 := n8_; clear n0_ n1_ n2_ n3_ n4_ n5_ n6_ n7_ n8_; clear hb hbox hg; have hnb29 := NB378_351.out; have hnc29 := NB351_378.out; have hcz30_0 : w28.cell? ⟨gb378, 0, none⟩ = some (.int .i64 0) := (blk_cell BK378.out 0).trans rfl; have hcz30_1 : w28.cell? ⟨gb378, 1, none⟩ = some (.int .i64 0) := (blk_cell BK378.out 1).trans rfl; have hcz30_2 : w28.cell? ⟨gb378, 2, none⟩ = some (.int .i64 0) := (blk_cell BK378.out 2).trans rfl; have hcz30_3 : w28.cell? ⟨gb378, 3, none⟩ = some (.int .i64 0) := (blk_cell BK378.out 3).trans rfl; have hcz30_4 : w28.cell? ⟨gb378, 4, none⟩ = some (.int .i64 0) := (blk_cell BK378.out 4).trans rfl; have hcz30_5 : w28.cell? ⟨gb378, 5, none⟩ = some (.int .i64 0) := (blk_cell BK378.out 5).trans rfl; have hcz30_6 : w28.cell? ⟨gb378, 6, none⟩ = some (.int .i64 0) := (blk_cell BK378.out 6).trans rfl; have hcz30_7 : w28.cell? ⟨gb378, 7, none⟩ = some (.string (⟨#[]⟩ : ByteArray)) := (blk_cell BK378.out 7).trans rfl; have hcz30_8 : w28.cell? ⟨gb378, 8, none⟩ = some (.string (⟨#[]⟩ : ByteArray)) := (blk_cell BK378.out 8).trans rfl; have hcz30_9 : w28.cell? ⟨gb378, 9, none⟩ = some (.slice none 0 0) := (blk_cell BK378.out 9).trans rfl; have hcz30_10 : w28.cell? ⟨gb378, 10, none⟩ = some (.slice none 0 0) := (blk_cell BK378.out 10).trans rfl; have hcz30_11 : w28.cell? ⟨gb378, 11, none⟩ = some (.int .i64 0) := (blk_cell BK378.out 11).trans rfl; have hcz30_12 : w28.cell? ⟨gb378, 12, none⟩ = some (.bool false) := (blk_cell BK378.out 12).trans rfl; have hcz30_13 : w28.cell? ⟨gb378, 13, none⟩ = some (.string (⟨#[]⟩ : ByteArray)) := (blk_cell BK378.out 13).trans rfl; have hfz30_0 := blk_frozen BK378.out 0; have hfz30_1 := blk_frozen BK378.out 1; have hfz30_2 := blk_frozen BK378.out 2; have hfz30_3 := blk_frozen BK378.out 3; have hfz30_4 := blk_frozen BK378.out 4; have hfz30_5 := blk_frozen BK378.out 5; have hfz30_6 := blk_frozen BK378.out 6; have hfz30_7 := blk_frozen BK378.out 7; have hfz30_8 := blk_frozen BK378.out 8; have hfz30_9 := blk_frozen BK378.out 9; have hfz30_10 := blk_frozen BK378.out 10; have hfz30_11 := blk_frozen BK378.out 11; have hfz30_12 := blk_frozen BK378.out 12; have hfz30_13 := blk_frozen BK378.out 13; obtain ⟨Ao31, co31, eo31⟩ := Kd.R_slice HO370.out; subst eo31; obtain ⟨Ao32, co32, eo32⟩ := Kd.R_slice HO373.out; subst eo32; have hcz33_0 : w28.cell? ⟨gb351, 0, none⟩ = some (.int .i64 a0_0) := (blk_cell BK351.out 0).trans rfl; have hcz33_1 : w28.cell? ⟨gb351, 1, none⟩ = some (.int .i64 a0_1) := (blk_cell BK351.out 1).trans rfl; have hcz33_2 : w28.cell? ⟨gb351, 2, none⟩ = some (.int .i64 a0_2) := (blk_cell BK351.out 2).trans rfl; have hcz33_3 : w28.cell? ⟨gb351, 3, none⟩ = some (.int .i64 a0_3) := (blk_cell BK351.out 3).trans rfl; have hcz33_4 : w28.cell? ⟨gb351, 4, none⟩ = some (.int .i64 a0_4) := (blk_cell BK351.out 4).trans rfl; have hcz33_5 : w28.cell? ⟨gb351, 5, none⟩ = some (.int .i64 a0_5) := (blk_cell BK351.out 5).trans rfl; have hcz33_6 : w28.cell? ⟨gb351, 6, none⟩ = some (.int .i64 a0_6) := (blk_cell BK351.out 6).trans rfl; have hcz33_7 : w28.cell? ⟨gb351, 7, none⟩ = some (.string a0_7) := (blk_cell BK351.out 7).trans rfl; have hcz33_8 : w28.cell? ⟨gb351, 8, none⟩ = some (.string a0_8) := (blk_cell BK351.out 8).trans rfl; have hcz33_9 : w28.cell? ⟨gb351, 9, none⟩ = some (.slice A0_9 l0_9.length c0_9) := (blk_cell BK351.out 9).trans rfl; have hcz33_10 : w28.cell? ⟨gb351, 10, none⟩ = some (.slice A0_10 l0_10.length c0_10) := (blk_cell BK351.out 10).trans rfl; have hcz33_11 : w28.cell? ⟨gb351, 11, none⟩ = some (.int .i64 a0_11) := (blk_cell BK351.out 11).trans rfl; have hcz33_12 : w28.cell? ⟨gb351, 12, none⟩ = some (.bool a0_12) := (blk_cell BK351.out 12).trans rfl; have hcz33_13 : w28.cell? ⟨gb351, 13, none⟩ = some (.string a0_13) := (blk_cell BK351.out 13).trans rfl; have hfz33_0 := blk_frozen BK351.out 0; have hfz33_1 := blk_frozen BK351.out 1; have hfz33_2 := blk_frozen BK351.out 2; have hfz33_3 := blk_frozen BK351.out 3; have hfz33_4 := blk_frozen BK351.out 4; have hfz33_5 := blk_frozen BK351.out 5; have hfz33_6 := blk_frozen BK351.out 6; have hfz33_7 := blk_frozen BK351.out 7; have hfz33_8 := blk_frozen BK351.out 8; have hfz33_9 := blk_frozen BK351.out 9; have hfz33_10 := blk_frozen BK351.out 10; have hfz33_11 := blk_frozen BK351.out 11; have hfz33_12 := blk_frozen BK351.out 12; have hfz33_13 := blk_frozen BK351.out 13) | (go_at_call 10; (with_reducible refine (shelfmarkref13_Same.calls kj7 t359 t360 t361 t362 t363 t364 t365 t366 t367 _ _ t368 _ _ t371 t374 t375 t376 a0_0 a0_1 a0_2 a0_3 a0_4 a0_5 a0_6 a0_7 a0_8 _ _ l0_9 _ _ l0_10 a0_11 a0_12 a0_13 t379 _ ?side1 ?side2 ?side3 ?side4 ?side5 ?side6 ?side7 ?side8 A26.out).mono ?_); (case side1 => refine (Kd.R_reads' (e := 39) (base := w.heap.size) (ok := fun k_ => True) (n := t368.length) (c := co31) ?_).2.2; exact (by (with_reducible repeat (first | apply Kd.R_alloc | apply Kd.R_drewN | apply Kd.R_drew)); exact (Kd.R_mono (Kd.R_far (p := ⟨gb378, 13, none⟩) (Kd.R_far (p := ⟨gb378, 12, none⟩) (Kd.R_far (p := ⟨gb378, 11, none⟩) (Kd.R_far (p := ⟨gb378, 10, none⟩) (Kd.R_far (p := ⟨gb378, 9, none⟩) (Kd.R_far (p := ⟨gb378, 8, none⟩) (Kd.R_far (p := ⟨gb378, 7, none⟩) (Kd.R_far (p := ⟨gb378, 6, none⟩) (Kd.R_far (p := ⟨gb378, 5, none⟩) (Kd.R_far (p := ⟨gb378, 4, none⟩) (Kd.R_far (p := ⟨gb378, 3, none⟩) (Kd.R_far (p := ⟨gb378, 2, none⟩) (Kd.R_far (p := ⟨gb378, 1, none⟩) (Kd.R_far (p := ⟨gb378, 0, none⟩) (Kd.R_types HO370.out BK378.out (by decide)) (fun _ hk => hk.2) (.int .i64 t359)) (fun _ hk => hk.2) (.int .i64 t360)) (fun _ hk => hk.2) (.int .i64 t361)) (fun _ hk => hk.2) (.int .i64 t362)) (fun _ hk => hk.2) (.int .i64 t363)) (fun _ hk => hk.2) (.int .i64 t364)) (fun _ hk => hk.2) (.int .i64 t365)) (fun _ hk => hk.2) (.string t366)) (fun _ hk => hk.2) (.string t367)) (fun _ hk => hk.2) (.slice Ao31 t368.length co31)) (fun _ hk => hk.2) (.slice Ao32 t371.length co32)) (fun _ hk => hk.2) (.int .i64 t374)) (fun _ hk => hk.2) (.bool t375)) (fun _ hk => hk.2) (.string t376)) (fun _ h_ => h_.1)))); (case side2 => exact (Kd.R_reads' HO370.out).2.1); (case side3 => refine (Kd.R_reads' (e := 41) (base := w.heap.size) (ok := fun k_ => True) (n := t371.length) (c := co32) ?_).2.2; exact (by (with_reducible repeat (first | apply Kd.R_alloc | apply Kd.R_drewN | apply Kd.R_drew)); exact (Kd.R_mono (Kd.R_far (p := ⟨gb378, 13, none⟩) (Kd.R_far (p := ⟨gb378, 12, none⟩) (Kd.R_far (p := ⟨gb378, 11, none⟩) (Kd.R_far (p := ⟨gb378, 10, none⟩) (Kd.R_far (p := ⟨gb378, 9, none⟩) (Kd.R_far (p := ⟨gb378, 8, none⟩) (Kd.R_far (p := ⟨gb378, 7, none⟩) (Kd.R_far (p := ⟨gb378, 6, none⟩) (Kd.R_far (p := ⟨gb378, 5, none⟩) (Kd.R_far (p := ⟨gb378, 4, none⟩) (Kd.R_far (p := ⟨gb378, 3, none⟩) (Kd.R_far (p := ⟨gb378, 2, none⟩) (Kd.R_far (p := ⟨gb378, 1, none⟩) (Kd.R_far (p := ⟨gb378, 0, none⟩) (Kd.R_types HO373.out BK378.out (by decide)) (fun _ hk => hk.2) (.int .i64 t359)) (fun _ hk => hk.2) (.int .i64 t360)) (fun _ hk => hk.2) (.int .i64 t361)) (fun _ hk => hk.2) (.int .i64 t362)) (fun _ hk => hk.2) (.int .i64 t363)) (fun _ hk => hk.2) (.int .i64 t364)) (fun _ hk => hk.2) (.int .i64 t365)) (fun _ hk => hk.2) (.string t366)) (fun _ hk => hk.2) (.string t367)) (fun _ hk => hk.2) (.slice Ao31 t368.length co31)) (fun _ hk => hk.2) (.slice Ao32 t371.length co32)) (fun _ hk => hk.2) (.int .i64 t374)) (fun _ hk => hk.2) (.bool t375)) (fun _ hk => hk.2) (.string t376)) (fun _ h_ => h_.1)))); (case side4 => exact (Kd.R_reads' HO373.out).2.1); (case side5 => exact Kd.C_below HR0_9.out (hL HB.out)); (case side6 => exact HC0_9.out); (case side7 => exact Kd.C_below HR0_10.out (hL HB.out)); (case side8 => exact HC0_10.out); rintro e w34 ⟨rfl, hb⟩; have n0_ := Aside0.mk (Kd.R_below (by (with_reducible repeat (first | apply Kd.R_alloc | apply Kd.R_drewN | apply Kd.R_drew)); exact (Kd.R_mono (Kd.R_far (p := ⟨gb378, 13, none⟩) (Kd.R_far (p := ⟨gb378, 12, none⟩) (Kd.R_far (p := ⟨gb378, 11, none⟩) (Kd.R_far (p := ⟨gb378, 10, none⟩) (Kd.R_far (p := ⟨gb378, 9, none⟩) (Kd.R_far (p := ⟨gb378, 8, none⟩) (Kd.R_far (p := ⟨gb378, 7, none⟩) (Kd.R_far (p := ⟨gb378, 6, none⟩) (Kd.R_far (p := ⟨gb378, 5, none⟩) (Kd.R_far (p := ⟨gb378, 4, none⟩) (Kd.R_far (p := ⟨gb378, 3, none⟩) (Kd.R_far (p := ⟨gb378, 2, none⟩) (Kd.R_far (p := ⟨gb378, 1, none⟩) (Kd.R_far (p := ⟨gb378, 0, none⟩) (Kd.R_types HO370.out BK378.out (by decide)) (fun _ hk => hk.2) (.int .i64 t359)) (fun _ hk => hk.2) (.int .i64 t360)) (fun _ hk => hk.2) (.int .i64 t361)) (fun _ hk => hk.2) (.int .i64 t362)) (fun _ hk => hk.2) (.int .i64 t363)) (fun _ hk => hk.2) (.int .i64 t364)) (fun _ hk => hk.2) (.int .i64 t365)) (fun _ hk => hk.2) (.string t366)) (fun _ hk => hk.2) (.string t367)) (fun _ hk => hk.2) (.slice Ao31 t368.length co31)) (fun _ hk => hk.2) (.slice Ao32 t371.length co32)) (fun _ hk => hk.2) (.int .i64 t374)) (fun _ hk => hk.2) (.bool t375)) (fun _ hk => hk.2) (.string t376)) (fun _ h_ => h_.1))) hb); have n1_ := Aside0.mk (Kd.R_below (by (with_reducible repeat (first | apply Kd.R_alloc | apply Kd.R_drewN | apply Kd.R_drew)); exact (Kd.R_mono (Kd.R_far (p := ⟨gb378, 13, none⟩) (Kd.R_far (p := ⟨gb378, 12, none⟩) (Kd.R_far (p := ⟨gb378, 11, none⟩) (Kd.R_far (p := ⟨gb378, 10, none⟩) (Kd.R_far (p := ⟨gb378, 9, none⟩) (Kd.R_far (p := ⟨gb378, 8, none⟩) (Kd.R_far (p := ⟨gb378, 7, none⟩) (Kd.R_far (p := ⟨gb378, 6, none⟩) (Kd.R_far (p := ⟨gb378, 5, none⟩) (Kd.R_far (p := ⟨gb378, 4, none⟩) (Kd.R_far (p := ⟨gb378, 3, none⟩) (Kd.R_far (p := ⟨gb378, 2, none⟩) (Kd.R_far (p := ⟨gb378, 1, none⟩) (Kd.R_far (p := ⟨gb378, 0, none⟩) (Kd.R_types HO373.out BK378.out (by decide)) (fun _ hk => hk.2) (.int .i64 t359)) (fun _ hk => hk.2) (.int .i64 t360)) (fun _ hk => hk.2) (.int .i64 t361)) (fun _ hk => hk.2) (.int .i64 t362)) (fun _ hk => hk.2) (.int .i64 t363)) (fun _ hk => hk.2) (.int .i64 t364)) (fun _ hk => hk.2) (.int .i64 t365)) (fun _ hk => hk.2) (.string t366)) (fun _ hk => hk.2) (.string t367)) (fun _ hk => hk.2) (.slice Ao31 t368.length co31)) (fun _ hk => hk.2) (.slice Ao32 t371.length co32)) (fun _ hk => hk.2) (.int .i64 t374)) (fun _ hk => hk.2) (.bool t375)) (fun _ hk => hk.2) (.string t376)) (fun _ h_ => h_.1))) hb); have n2_ := Aside0.mk (blk_below (g := gb351) (o := .cells #[.int .i64 a0_0, .int .i64 a0_1, .int .i64 a0_2, .int .i64 a0_3, .int .i64 a0_4, .int .i64 a0_5, .int .i64 a0_6, .string a0_7, .string a0_8, .slice A0_9 l0_9.length c0_9, .slice A0_10 l0_10.length c0_10, .int .i64 a0_11, .bool a0_12, .string a0_13] 27 (0, 0)) (by (with_reducible repeat (first | refine blk_drewN ?_ _ | refine blk_drew ?_ | refine blk_alloc ?_ _)); refine blk_far ?_ NB351_378.out _; (with_reducible repeat (first | refine blk_drewN ?_ _ | refine blk_drew ?_ | refine blk_alloc ?_ _)); refine blk_far ?_ NB351_378.out _; (with_reducible repeat (first | refine blk_drewN ?_ _ | refine blk_drew ?_ | refine blk_alloc ?_ _)); refine blk_far ?_ NB351_378.out _; (with_reducible repeat (first | refine blk_drewN ?_ _ | refine blk_drew ?_ | refine blk_alloc ?_ _)); refine blk_far ?_ NB351_378.out _; (with_reducible repeat (first | refine blk_drewN ?_ _ | refine blk_drew ?_ | refine blk_alloc ?_ _)); refine blk_far ?_ NB351_378.out _; (with_reducible repeat (first | refine blk_drewN ?_ _ | refine blk_drew ?_ | refine blk_alloc ?_ _)); refine blk_far ?_ NB351_378.out _; (with_reducible repeat (first | refine blk_drewN ?_ _ | refine blk_drew ?_ | refine blk_alloc ?_ _)); refine blk_far ?_ NB351_378.out _; (with_reducible repeat (first | refine blk_drewN ?_ _ | refine blk_drew ?_ | refine blk_alloc ?_ _)); refine blk_far ?_ NB351_378.out _; (with_reducible repeat (first | refine blk_drewN ?_ _ | refine blk_drew ?_ | refine blk_alloc ?_ _)); refine blk_far ?_ NB351_378.out _; (with_reducible repeat (first | refine blk_drewN ?_ _ | refine blk_drew ?_ | refine blk_alloc ?_ _)); refine blk_far ?_ NB351_378.out _; (with_reducible repeat (first | refine blk_drewN ?_ _ | refine blk_drew ?_ | refine blk_alloc ?_ _)); refine blk_far ?_ NB351_378.out _; (with_reducible repeat (first | refine blk_drewN ?_ _ | refine blk_drew ?_ | refine blk_alloc ?_ _)); refine blk_far ?_ NB351_378.out _; (with_reducible repeat (first | refine blk_drewN ?_ _ | refine blk_drew ?_ | refine blk_alloc ?_ _)); refine blk_far ?_ NB351_378.out _; (with_reducible repeat (first | refine blk_drewN ?_ _ | refine blk_drew ?_ | refine blk_alloc ?_ _)); refine blk_far ?_ NB351_378.out _; exact bL BK351.out) hb); have n3_ := Aside0.mk (blk_below (g := gb378) (o := .cells #[.int .i64 t359, .int .i64 t360, .int .i64 t361, .int .i64 t362, .int .i64 t363, .int .i64 t364, .int .i64 t365, .string t366, .string t367, .slice Ao31 t368.length co31, .slice Ao32 t371.length co32, .int .i64 t374, .bool t375, .string t376] 27 (0, 0)) (by (with_reducible repeat (first | refine blk_drewN ?_ _ | refine blk_drew ?_ | refine blk_alloc ?_ _)); refine blk_put (cs := #[.int .i64 t359, .int .i64 t360, .int .i64 t361, .int .i64 t362, .int .i64 t363, .int .i64 t364, .int .i64 t365, .string t366, .string t367, .slice Ao31 t368.length co31, .slice Ao32 t371.length co32, .int .i64 t374, .bool t375, .string (⟨#[]⟩ : ByteArray)]) ?_ 13 _ rfl; (with_reducible repeat (first | refine blk_drewN ?_ _ | refine blk_drew ?_ | refine blk_alloc ?_ _)); refine blk_put (cs := #[.int .i64 t359, .int .i64 t360, .int .i64 t361, .int .i64 t362, .int .i64 t363, .int .i64 t364, .int .i64 t365, .string t366, .string t367, .slice Ao31 t368.length co31, .slice Ao32 t371.length co32, .int .i64 t374, .bool false, .string (⟨#[]⟩ : ByteArray)]) ?_ 12 _ rfl; (with_reducible repeat (first | refine blk_drewN ?_ _ | refine blk_drew ?_ | refine blk_alloc ?_ _)); refine blk_put (cs := #[.int .i64 t359, .int .i64 t360, .int .i64 t361, .int .i64 t362, .int .i64 t363, .int .i64 t364, .int .i64 t365, .string t366, .string t367, .slice Ao31 t368.length co31, .slice Ao32 t371.length co32, .int .i64 0, .bool false, .string (⟨#[]⟩ : ByteArray)]) ?_ 11 _ rfl; (with_reducible repeat (first | refine blk_drewN ?_ _ | refine blk_drew ?_ | refine blk_alloc ?_ _)); refine blk_put (cs := #[.int .i64 t359, .int .i64 t360, .int .i64 t361, .int .i64 t362, .int .i64 t363, .int .i64 t364, .int .i64 t365, .string t366, .string t367, .slice Ao31 t368.length co31, .slice none 0 0, .int .i64 0, .bool false, .string (⟨#[]⟩ : ByteArray)]) ?_ 10 _ rfl; (with_reducible repeat (first | refine blk_drewN ?_ _ | refine blk_drew ?_ | refine blk_alloc ?_ _)); refine blk_put (cs := #[.int .i64 t359, .int .i64 t360, .int .i64 t361, .int .i64 t362, .int .i64 t363, .int .i64 t364, .int .i64 t365, .string t366, .string t367, .slice none 0 0, .slice none 0 0, .int .i64 0, .bool false, .string (⟨#[]⟩ : ByteArray)]) ?_ 9 _ rfl; (with_reducible repeat (first | refine blk_drewN ?_ _ | refine blk_drew ?_ | refine blk_alloc ?_ _)); refine blk_put (cs := #[.int .i64 t359, .int .i64 t360, .int .i64 t361, .int .i64 t362, .int .i64 t363, .int .i64 t364, .int .i64 t365, .string t366, .string (⟨#[]⟩ : ByteArray), .slice none 0 0, .slice none 0 0, .int .i64 0, .bool false, .string (⟨#[]⟩ : ByteArray)]) ?_ 8 _ rfl; (with_reducible repeat (first | refine blk_drewN ?_ _ | refine blk_drew ?_ | refine blk_alloc ?_ _)); refine blk_put (cs := #[.int .i64 t359, .int .i64 t360, .int .i64 t361, .int .i64 t362, .int .i64 t363, .int .i64 t364, .int .i64 t365, .string (⟨#[]⟩ : ByteArray), .string (⟨#[]⟩ : ByteArray), .slice none 0 0, .slice none 0 0, .int .i64 0, .bool false, .string (⟨#[]⟩ : ByteArray)]) ?_ 7 _ rfl; (with_reducible repeat (first | refine blk_drewN ?_ _ | refine blk_drew ?_ | refine blk_alloc ?_ _)); refine blk_put (cs := #[.int .i64 t359, .int .i64 t360, .int .i64 t361, .int .i64 t362, .int .i64 t363, .int .i64 t364, .int .i64 0, .string (⟨#[]⟩ : ByteArray), .string (⟨#[]⟩ : ByteArray), .slice none 0 0, .slice none 0 0, .int .i64 0, .bool false, .string (⟨#[]⟩ : ByteArray)]) ?_ 6 _ rfl; (with_reducible repeat (first | refine blk_drewN ?_ _ | refine blk_drew ?_ | refine blk_alloc ?_ _)); refine blk_put (cs := #[.int .i64 t359, .int .i64 t360, .int .i64 t361, .int .i64 t362, .int .i64 t363, .int .i64 0, .int .i64 0, .string (⟨#[]⟩ : ByteArray), .string (⟨#[]⟩ : ByteArray), .slice none 0 0, .slice none 0 0, .int .i64 0, .bool false, .string (⟨#[]⟩ : ByteArray)]) ?_ 5 _ rfl; (with_reducible repeat (first | refine blk_drewN ?_ _ | refine blk_drew ?_ | refine blk_alloc ?_ _)); refine blk_put (cs := #[.int .i64 t359, .int .i64 t360, .int .i64 t361, .int .i64 t362, .int .i64 0, .int .i64 0, .int .i64 0, .string (⟨#[]⟩ : ByteArray), .string (⟨#[]⟩ : ByteArray), .slice none 0 0, .slice none 0 0, .int .i64 0, .bool false, .string (⟨#[]⟩ : ByteArray)]) ?_ 4 _ rfl; (with_reducible repeat (first | refine blk_drewN ?_ _ | refine blk_drew ?_ | refine blk_alloc ?_ _)); refine blk_put (cs := #[.int .i64 t359, .int .i64 t360, .int .i64 t361, .int .i64 0, .int .i64 0, .int .i64 0, .int .i64 0, .string (⟨#[]⟩ : ByteArray), .string (⟨#[]⟩ : ByteArray), .slice none 0 0, .slice none 0 0, .int .i64 0, .bool false, .string (⟨#[]⟩ : ByteArray)]) ?_ 3 _ rfl; (with_reducible repeat (first | refine blk_drewN ?_ _ | refine blk_drew ?_ | refine blk_alloc ?_ _)); refine blk_put (cs := #[.int .i64 t359, .int .i64 t360, .int .i64 0, .int .i64 0, .int .i64 0, .int .i64 0, .int .i64 0, .string (⟨#[]⟩ : ByteArray), .string (⟨#[]⟩ : ByteArray), .slice none 0 0, .slice none 0 0, .int .i64 0, .bool false, .string (⟨#[]⟩ : ByteArray)]) ?_ 2 _ rfl; (with_reducible repeat (first | refine blk_drewN ?_ _ | refine blk_drew ?_ | refine blk_alloc ?_ _)); refine blk_put (cs := #[.int .i64 t359, .int .i64 0, .int .i64 0, .int .i64 0, .int .i64 0, .int .i64 0, .int .i64 0, .string (⟨#[]⟩ : ByteArray), .string (⟨#[]⟩ : ByteArray), .slice none 0 0, .slice none 0 0, .int .i64 0, .bool false, .string (⟨#[]⟩ : ByteArray)]) ?_ 1 _ rfl; (with_reducible repeat (first | refine blk_drewN ?_ _ | refine blk_drew ?_ | refine blk_alloc ?_ _)); refine blk_put (cs := #[.int .i64 0, .int .i64 0, .int .i64 0, .int .i64 0, .int .i64 0, .int .i64 0, .int .i64 0, .string (⟨#[]⟩ : ByteArray), .string (⟨#[]⟩ : ByteArray), .slice none 0 0, .slice none 0 0, .int .i64 0, .bool false, .string (⟨#[]⟩ : ByteArray)]) ?_ 0 _ rfl; exact bL BK378.out) hb); have n4_ := Aside0.mk (below_step (hL HB.out) hb); clear HO370; clear HO373; clear BK351; clear BK378; clear HB; have HO370 := n0_; have HO373 := n1_; have BK351 := n2_; have BK378 := n3_; have HB := n4_; clear n0_ n1_ n2_ n3_ n4_; (try clear hb); (try clear hb2); (try clear hk); (try clear hi)))
 go_ret
 exact ⟨by first | rfl | (simp [errW_none, errW_some] <;> rfl) | (simp [*, errW_none, errW_some] <;> rfl), hL HB.out⟩

end Go.Proofs.Ythghacojbhjeaaa.PLt
