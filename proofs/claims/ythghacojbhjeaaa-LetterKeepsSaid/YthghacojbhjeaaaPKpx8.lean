-- Written by a program of this session for this claim (mp.py, over the kit's print); Lean checks it.
import Derived.Test.YthghacojbhjeaaaPKpx0
namespace Go.Proofs.Ythghacojbhjeaaa.PKp
open Go.RowKit Go.Proofs.YthghacojbhjeaaaW.PrintWords Go.Proofs.YthghacojbhjeaaaW.PrintLast Go.Proofs.YthghacojbhjeaaaW.PrintMore Go.Proofs.Ythghacojbhjeaaa.Fv Go.Proofs.Ythghacojbhjeaaa.Hl
attribute [local go_sem] max2_int min2_int max_two min_two max_three min_three max_four min_four str_gtr str_leq str_geq cell_set2   -- for this text's walks alone
set_option linter.unusedVariables false
set_option linter.unusedSimpArgs false

/-! ### shelfmarkref13_Light: function 12 -/
mutual
def shelfmarkref13_Light.j0 : Nat → Bool → Int → Int → Int → Int → Int → Int → Int → ByteArray → ByteArray → List (S39) → List (S41) → Int → Bool → ByteArray → Option (Bool)
 | 0, _, _, _, _, _, _, _, _, _, _, _, _, _, _, _ => none
 | k + 1, x15, x133000, x133001, x133002, x133003, x133004, x133005, x133006, x133007, x133008, x133009, x133010, x133011, x133012, x133013 => if x15 = true then (some false) else (shelfmarkref13_Light.l0 k (((mn (x133007.size : Int) 100000) + (mn (x133008.size : Int) 100000)) + (mn (x133013.size : Int) 100000)) 0 x133000 x133001 x133002 x133003 x133004 x133005 x133006 x133007 x133008 x133009 x133010 x133011 x133012 x133013)
def shelfmarkref13_Light.j2 : Nat → Int → Int → Int → Int → Int → Int → Int → Int → ByteArray → ByteArray → List (S39) → List (S41) → Int → Bool → ByteArray → Option (Bool)
 | 0, _, _, _, _, _, _, _, _, _, _, _, _, _, _, _ => none
 | k + 1, x3, x133000, x133001, x133002, x133003, x133004, x133005, x133006, x133007, x133008, x133009, x133010, x133011, x133012, x133013 => shelfmarkref13_Light.l1 k x3 0 x133000 x133001 x133002 x133003 x133004 x133005 x133006 x133007 x133008 x133009 x133010 x133011 x133012 x133013
def shelfmarkref13_Light.l1 : Nat → Int → Int → Int → Int → Int → Int → Int → Int → Int → ByteArray → ByteArray → List (S39) → List (S41) → Int → Bool → ByteArray → Option (Bool)
 | 0, _, _, _, _, _, _, _, _, _, _, _, _, _, _, _, _ => none
 | k + 1, x3, x5, x133000, x133001, x133002, x133003, x133004, x133005, x133006, x133007, x133008, x133009, x133010, x133011, x133012, x133013 => if x5 < (x133010.length : Int) then (if x3 ≤ 100000 then (if 0 ≤ x5 then (shelfmarkref13_Light.l1 k (wrap64 (x3 + (mn (((rd_T41 x133010 x5).f0).size : Int) 100001))) (wrap64 (x5 + 1)) x133000 x133001 x133002 x133003 x133004 x133005 x133006 x133007 x133008 x133009 x133010 x133011 x133012 x133013) else (none)) else (some (decide (x3 ≤ 100000)))) else (some (decide (x3 ≤ 100000)))
def shelfmarkref13_Light.l0 : Nat → Int → Int → Int → Int → Int → Int → Int → Int → Int → ByteArray → ByteArray → List (S39) → List (S41) → Int → Bool → ByteArray → Option (Bool)
 | 0, _, _, _, _, _, _, _, _, _, _, _, _, _, _, _, _ => none
 | k + 1, x3, x4, x133000, x133001, x133002, x133003, x133004, x133005, x133006, x133007, x133008, x133009, x133010, x133011, x133012, x133013 => if x4 < (x133009.length : Int) then (if x3 ≤ 100000 then (if 0 ≤ x4 then (shelfmarkref13_Light.l0 k (wrap64 ((wrap64 (x3 + (mn (((rd_T39 x133009 x4).f0).size : Int) 100001))) + (mn (((rd_T39 x133009 x4).f1).size : Int) 100001))) (wrap64 (x4 + 1)) x133000 x133001 x133002 x133003 x133004 x133005 x133006 x133007 x133008 x133009 x133010 x133011 x133012 x133013) else (none)) else (shelfmarkref13_Light.j2 k x3 x133000 x133001 x133002 x133003 x133004 x133005 x133006 x133007 x133008 x133009 x133010 x133011 x133012 x133013)) else (shelfmarkref13_Light.j2 k x3 x133000 x133001 x133002 x133003 x133004 x133005 x133006 x133007 x133008 x133009 x133010 x133011 x133012 x133013)
end
def shelfmarkref13_Light.f (k : Nat) (a0_0 : Int) (a0_1 : Int) (a0_2 : Int) (a0_3 : Int) (a0_4 : Int) (a0_5 : Int) (a0_6 : Int) (a0_7 : ByteArray) (a0_8 : ByteArray) (l0_9 : List (S39)) (l0_10 : List (S41)) (a0_11 : Int) (a0_12 : Bool) (a0_13 : ByteArray) : Option (Bool) := if (l0_9.length : Int) > 300 then (shelfmarkref13_Light.j0 k true a0_0 a0_1 a0_2 a0_3 a0_4 a0_5 a0_6 a0_7 a0_8 l0_9 l0_10 a0_11 a0_12 a0_13) else (shelfmarkref13_Light.j0 k (decide ((l0_10.length : Int) > 300)) a0_0 a0_1 a0_2 a0_3 a0_4 a0_5 a0_6 a0_7 a0_8 l0_9 l0_10 a0_11 a0_12 a0_13)
theorem shelfmarkref13_Light.mono_l : ∀ k, (∀ y0 y1 y2 y3 y4 y5 y6 y7 y8 y9 y10 y11 y12 y13 y14, LeO (shelfmarkref13_Light.j0 k y0 y1 y2 y3 y4 y5 y6 y7 y8 y9 y10 y11 y12 y13 y14) (shelfmarkref13_Light.j0 (k + 1) y0 y1 y2 y3 y4 y5 y6 y7 y8 y9 y10 y11 y12 y13 y14)) ∧ (∀ y0 y1 y2 y3 y4 y5 y6 y7 y8 y9 y10 y11 y12 y13 y14, LeO (shelfmarkref13_Light.j2 k y0 y1 y2 y3 y4 y5 y6 y7 y8 y9 y10 y11 y12 y13 y14) (shelfmarkref13_Light.j2 (k + 1) y0 y1 y2 y3 y4 y5 y6 y7 y8 y9 y10 y11 y12 y13 y14)) ∧ (∀ y0 y1 y2 y3 y4 y5 y6 y7 y8 y9 y10 y11 y12 y13 y14 y15, LeO (shelfmarkref13_Light.l1 k y0 y1 y2 y3 y4 y5 y6 y7 y8 y9 y10 y11 y12 y13 y14 y15) (shelfmarkref13_Light.l1 (k + 1) y0 y1 y2 y3 y4 y5 y6 y7 y8 y9 y10 y11 y12 y13 y14 y15)) ∧ (∀ y0 y1 y2 y3 y4 y5 y6 y7 y8 y9 y10 y11 y12 y13 y14 y15, LeO (shelfmarkref13_Light.l0 k y0 y1 y2 y3 y4 y5 y6 y7 y8 y9 y10 y11 y12 y13 y14 y15) (shelfmarkref13_Light.l0 (k + 1) y0 y1 y2 y3 y4 y5 y6 y7 y8 y9 y10 y11 y12 y13 y14 y15))
 | 0 => ⟨fun _ _ _ _ _ _ _ _ _ _ _ _ _ _ _ r h => by simp [shelfmarkref13_Light.j0] at h, fun _ _ _ _ _ _ _ _ _ _ _ _ _ _ _ r h => by simp [shelfmarkref13_Light.j2] at h, fun _ _ _ _ _ _ _ _ _ _ _ _ _ _ _ _ r h => by simp [shelfmarkref13_Light.l1] at h, fun _ _ _ _ _ _ _ _ _ _ _ _ _ _ _ _ r h => by simp [shelfmarkref13_Light.l0] at h⟩
 | k + 1 => by
  obtain ⟨ih0, ih1, ih2, ih3⟩ := shelfmarkref13_Light.mono_l k
  refine ⟨?_, ?_, ?_, ?_⟩
  ·intro y0 y1 y2 y3 y4 y5 y6 y7 y8 y9 y10 y11 y12 y13 y14
   unfold shelfmarkref13_Light.j0
   repeat' first
   | (with_reducible exact ih0 _ _ _ _ _ _ _ _ _ _ _ _ _ _ _)
   | (with_reducible exact ih1 _ _ _ _ _ _ _ _ _ _ _ _ _ _ _)
   | (with_reducible exact ih2 _ _ _ _ _ _ _ _ _ _ _ _ _ _ _ _)
   | (with_reducible exact ih3 _ _ _ _ _ _ _ _ _ _ _ _ _ _ _ _)
   | (with_reducible exact LeO.refl _)
   | (with_reducible exact LeO.none _)
   | (with_reducible refine LeO.ite ?_ ?_)
   | (with_reducible refine LeO.bind ?_ (fun _ => ?_))
   | exact ih0 _ _ _ _ _ _ _ _ _ _ _ _ _ _ _
   | exact ih1 _ _ _ _ _ _ _ _ _ _ _ _ _ _ _
   | exact ih2 _ _ _ _ _ _ _ _ _ _ _ _ _ _ _ _
   | exact ih3 _ _ _ _ _ _ _ _ _ _ _ _ _ _ _ _
   | exact LeO.none _
   | refine LeO.ite ?_ ?_
   | refine LeO.bind ?_ (fun _ => ?_)
  ·intro y0 y1 y2 y3 y4 y5 y6 y7 y8 y9 y10 y11 y12 y13 y14
   unfold shelfmarkref13_Light.j2
   repeat' first
   | (with_reducible exact ih0 _ _ _ _ _ _ _ _ _ _ _ _ _ _ _)
   | (with_reducible exact ih1 _ _ _ _ _ _ _ _ _ _ _ _ _ _ _)
   | (with_reducible exact ih2 _ _ _ _ _ _ _ _ _ _ _ _ _ _ _ _)
   | (with_reducible exact ih3 _ _ _ _ _ _ _ _ _ _ _ _ _ _ _ _)
   | (with_reducible exact LeO.refl _)
   | (with_reducible exact LeO.none _)
   | (with_reducible refine LeO.ite ?_ ?_)
   | (with_reducible refine LeO.bind ?_ (fun _ => ?_))
   | exact ih0 _ _ _ _ _ _ _ _ _ _ _ _ _ _ _
   | exact ih1 _ _ _ _ _ _ _ _ _ _ _ _ _ _ _
   | exact ih2 _ _ _ _ _ _ _ _ _ _ _ _ _ _ _ _
   | exact ih3 _ _ _ _ _ _ _ _ _ _ _ _ _ _ _ _
   | exact LeO.none _
   | refine LeO.ite ?_ ?_
   | refine LeO.bind ?_ (fun _ => ?_)
  ·intro y0 y1 y2 y3 y4 y5 y6 y7 y8 y9 y10 y11 y12 y13 y14 y15
   unfold shelfmarkref13_Light.l1
   repeat' first
   | (with_reducible exact ih0 _ _ _ _ _ _ _ _ _ _ _ _ _ _ _)
   | (with_reducible exact ih1 _ _ _ _ _ _ _ _ _ _ _ _ _ _ _)
   | (with_reducible exact ih2 _ _ _ _ _ _ _ _ _ _ _ _ _ _ _ _)
   | (with_reducible exact ih3 _ _ _ _ _ _ _ _ _ _ _ _ _ _ _ _)
   | (with_reducible exact LeO.refl _)
   | (with_reducible exact LeO.none _)
   | (with_reducible refine LeO.ite ?_ ?_)
   | (with_reducible refine LeO.bind ?_ (fun _ => ?_))
   | exact ih0 _ _ _ _ _ _ _ _ _ _ _ _ _ _ _
   | exact ih1 _ _ _ _ _ _ _ _ _ _ _ _ _ _ _
   | exact ih2 _ _ _ _ _ _ _ _ _ _ _ _ _ _ _ _
   | exact ih3 _ _ _ _ _ _ _ _ _ _ _ _ _ _ _ _
   | exact LeO.none _
   | refine LeO.ite ?_ ?_
   | refine LeO.bind ?_ (fun _ => ?_)
  ·intro y0 y1 y2 y3 y4 y5 y6 y7 y8 y9 y10 y11 y12 y13 y14 y15
   unfold shelfmarkref13_Light.l0
   repeat' first
   | (with_reducible exact ih0 _ _ _ _ _ _ _ _ _ _ _ _ _ _ _)
   | (with_reducible exact ih1 _ _ _ _ _ _ _ _ _ _ _ _ _ _ _)
   | (with_reducible exact ih2 _ _ _ _ _ _ _ _ _ _ _ _ _ _ _ _)
   | (with_reducible exact ih3 _ _ _ _ _ _ _ _ _ _ _ _ _ _ _ _)
   | (with_reducible exact LeO.refl _)
   | (with_reducible exact LeO.none _)
   | (with_reducible refine LeO.ite ?_ ?_)
   | (with_reducible refine LeO.bind ?_ (fun _ => ?_))
   | exact ih0 _ _ _ _ _ _ _ _ _ _ _ _ _ _ _
   | exact ih1 _ _ _ _ _ _ _ _ _ _ _ _ _ _ _
   | exact ih2 _ _ _ _ _ _ _ _ _ _ _ _ _ _ _ _
   | exact ih3 _ _ _ _ _ _ _ _ _ _ _ _ _ _ _ _
   | exact LeO.none _
   | refine LeO.ite ?_ ?_
   | refine LeO.bind ?_ (fun _ => ?_)
theorem shelfmarkref13_Light.mono : ∀ a0 a1 a2 a3 a4 a5 a6 a7 a8 a9 a10 a11 a12 a13 k, LeO (shelfmarkref13_Light.f k a0 a1 a2 a3 a4 a5 a6 a7 a8 a9 a10 a11 a12 a13) (shelfmarkref13_Light.f (k + 1) a0 a1 a2 a3 a4 a5 a6 a7 a8 a9 a10 a11 a12 a13) := by
 intro a0 a1 a2 a3 a4 a5 a6 a7 a8 a9 a10 a11 a12 a13 k
 obtain ⟨ih0, ih1, ih2, ih3⟩ := shelfmarkref13_Light.mono_l k
 unfold shelfmarkref13_Light.f
 repeat' first
   | (with_reducible exact ih0 _ _ _ _ _ _ _ _ _ _ _ _ _ _ _)
   | (with_reducible exact ih1 _ _ _ _ _ _ _ _ _ _ _ _ _ _ _)
   | (with_reducible exact ih2 _ _ _ _ _ _ _ _ _ _ _ _ _ _ _ _)
   | (with_reducible exact ih3 _ _ _ _ _ _ _ _ _ _ _ _ _ _ _ _)
   | (with_reducible exact LeO.refl _)
   | (with_reducible exact LeO.none _)
   | (with_reducible refine LeO.ite ?_ ?_)
   | (with_reducible refine LeO.bind ?_ (fun _ => ?_))
   | exact ih0 _ _ _ _ _ _ _ _ _ _ _ _ _ _ _
   | exact ih1 _ _ _ _ _ _ _ _ _ _ _ _ _ _ _
   | exact ih2 _ _ _ _ _ _ _ _ _ _ _ _ _ _ _ _
   | exact ih3 _ _ _ _ _ _ _ _ _ _ _ _ _ _ _ _
   | exact LeO.none _
   | refine LeO.ite ?_ ?_
   | refine LeO.bind ?_ (fun _ => ?_)
set_option maxHeartbeats 8000000 in
set_option maxRecDepth 100000 in
theorem shelfmarkref13_Light.calls (k : Nat) (a0_0 : Int) (a0_1 : Int) (a0_2 : Int) (a0_3 : Int) (a0_4 : Int) (a0_5 : Int) (a0_6 : Int) (a0_7 : ByteArray) (a0_8 : ByteArray) (A0_9 : Option Addr) (c0_9 : Nat) (l0_9 : List (S39)) (A0_10 : Option Addr) (c0_10 : Nat) (l0_10 : List (S41)) (a0_11 : Int) (a0_12 : Bool) (a0_13 : ByteArray) (r : Bool) (w : World) (hr0_9 : Kd.C k39 w A0_9 l0_9.length l0_9) (hc0_9 : l0_9.length ≤ c0_9) (hr0_10 : Kd.C k41 w A0_10 l0_10.length l0_10) (hc0_10 : l0_10.length ≤ c0_10) (h : shelfmarkref13_Light.f k a0_0 a0_1 a0_2 a0_3 a0_4 a0_5 a0_6 a0_7 a0_8 l0_9 l0_10 a0_11 a0_12 a0_13 = some r) :
  Calls Try.prog 12 #[.agg #[.int .i64 a0_0, .int .i64 a0_1, .int .i64 a0_2, .int .i64 a0_3, .int .i64 a0_4, .int .i64 a0_5, .int .i64 a0_6, .string a0_7, .string a0_8, .slice A0_9 l0_9.length c0_9, .slice A0_10 l0_10.length c0_10, .int .i64 a0_11, .bool a0_12, .string a0_13]] w fun e w' => e = .returned (.bool r) ∧ Below w.heap.size w w' := by
 have hu27 := Try.underlying27
 have HR0_9 := Aside0.mk hr0_9
 have HC0_9 := Aside0.mk hc0_9
 clear hr0_9 hc0_9
 have HR0_10 := Aside0.mk hr0_10
 have HC0_10 := Aside0.mk hc0_10
 clear hr0_10 hc0_10
 have HB := Aside0.mk (Below.refl w.heap.size w)
 have H : (if (l0_9.length : Int) > 300 then (shelfmarkref13_Light.j0 k true a0_0 a0_1 a0_2 a0_3 a0_4 a0_5 a0_6 a0_7 a0_8 l0_9 l0_10 a0_11 a0_12 a0_13) else (shelfmarkref13_Light.j0 k (decide ((l0_10.length : Int) > 300)) a0_0 a0_1 a0_2 a0_3 a0_4 a0_5 a0_6 a0_7 a0_8 l0_9 l0_10 a0_11 a0_12 a0_13)) = some r := h
 clear h
 have HC2 := Aside0.mk H
 clear H
 go_enter Try.func12, Try.ntmps12
 go_upto_region 1 with (first | ((with_reducible refine gate_dst (N := 1) rfl ?_); (try (refine gate_guard (by rfl) ?_; dsimp only)); refine box_event ?hg (N := 1) ?hd (cs := #[.int .i64 a0_0, .int .i64 a0_1, .int .i64 a0_2, .int .i64 a0_3, .int .i64 a0_4, .int .i64 a0_5, .int .i64 a0_6, .string a0_7, .string a0_8, .slice A0_9 l0_9.length c0_9, .slice A0_10 l0_10.length c0_10, .int .i64 a0_11, .bool a0_12, .string a0_13]) (t := 27) ?hr ?_; (case hd => rfl); (case hg => rfl); (case hr => first | (go_simp; done) | (go_simp; rfl)); intro gb132 hg w3 hbox hb; have n0_ := Aside0.mk (below_step (hL HB.out) hb); have n1_ := Aside0.mk (hbox); have n2_ := Above.mk ((by rw [hg]; exact (below_size (hL HB.out)) : w.heap.size ≤ gb132)); have n3_ := Above.mk ((by rw [hg]; exact (below_size (hL HB.out)) : w.heap.size ≤ gb132)); clear HB; have HB := n0_; have BK132 := n1_; have GW132 := n2_; have GE132 := n3_; clear n0_ n1_ n2_ n3_; clear hb hbox hg))
 repeat (go_quiet (first | ((with_reducible refine gate_dst (N := 1) rfl ?_); (try (refine gate_guard (by rfl) ?_; dsimp only)); refine box_event ?hg (N := 1) ?hd (cs := #[.int .i64 a0_0, .int .i64 a0_1, .int .i64 a0_2, .int .i64 a0_3, .int .i64 a0_4, .int .i64 a0_5, .int .i64 a0_6, .string a0_7, .string a0_8, .slice A0_9 l0_9.length c0_9, .slice A0_10 l0_10.length c0_10, .int .i64 a0_11, .bool a0_12, .string a0_13]) (t := 27) ?hr ?_; (case hd => rfl); (case hg => rfl); (case hr => first | (go_simp; done) | (go_simp; rfl)); intro gb132 hg w3 hbox hb; have n0_ := Aside0.mk (below_step (hL HB.out) hb); have n1_ := Aside0.mk (hbox); have n2_ := Above.mk ((by rw [hg]; exact (below_size (hL HB.out)) : w.heap.size ≤ gb132)); have n3_ := Above.mk ((by rw [hg]; exact (below_size (hL HB.out)) : w.heap.size ≤ gb132)); clear HB; have HB := n0_; have BK132 := n1_; have GW132 := n2_; have GE132 := n3_; clear n0_ n1_ n2_ n3_; clear hb hbox hg)); go_upto_region 1 with (first | ((with_reducible refine gate_dst (N := 1) rfl ?_); (try (refine gate_guard (by rfl) ?_; dsimp only)); refine box_event ?hg (N := 1) ?hd (cs := #[.int .i64 a0_0, .int .i64 a0_1, .int .i64 a0_2, .int .i64 a0_3, .int .i64 a0_4, .int .i64 a0_5, .int .i64 a0_6, .string a0_7, .string a0_8, .slice A0_9 l0_9.length c0_9, .slice A0_10 l0_10.length c0_10, .int .i64 a0_11, .bool a0_12, .string a0_13]) (t := 27) ?hr ?_; (case hd => rfl); (case hg => rfl); (case hr => first | (go_simp; done) | (go_simp; rfl)); intro gb132 hg w3 hbox hb; have n0_ := Aside0.mk (below_step (hL HB.out) hb); have n1_ := Aside0.mk (hbox); have n2_ := Above.mk ((by rw [hg]; exact (below_size (hL HB.out)) : w.heap.size ≤ gb132)); have n3_ := Above.mk ((by rw [hg]; exact (below_size (hL HB.out)) : w.heap.size ≤ gb132)); clear HB; have HB := n0_; have BK132 := n1_; have GW132 := n2_; have GE132 := n3_; clear n0_ n1_ n2_ n3_; clear hb hbox hg)))
 (try simp only [Act.put, sT, sZ, sS])
 go_cut [15] (fun v15 wc => ∃ (kq : Nat) (x15_1 : Bool), v15 = .bool x15_1 ∧ Aside0 (shelfmarkref13_Light.j0 kq x15_1 a0_0 a0_1 a0_2 a0_3 a0_4 a0_5 a0_6 a0_7 a0_8 l0_9 l0_10 a0_11 a0_12 a0_13 = some r) ∧ Aside0 (kq ≤ k) ∧ Aside0 (wc.heap[gb132]? = some (.cells #[.int .i64 a0_0, .int .i64 a0_1, .int .i64 a0_2, .int .i64 a0_3, .int .i64 a0_4, .int .i64 a0_5, .int .i64 a0_6, .string a0_7, .string a0_8, (.slice A0_9 l0_9.length c0_9), (.slice A0_10 l0_10.length c0_10), .int .i64 a0_11, .bool a0_12, .string a0_13] 27 (0, 0))) ∧ Aside0 (Below w.heap.size w wc))
 case first =>
  have H := HC2.out
  clear HC2
  by_cases c4 : (l0_9.length : Int) > 300
  ·rw [if_pos c4] at H
   have c4b0 : decide (300 < (l0_9.length : Int)) = true := decide_eq_true c4
   have c4b1 : decide (300 < l0_9.length) = true := decide_eq_true (by omega)
   clear c4
   (first | rw [c4b0] | (simp only [i64_w, i32_w]; rw [c4b0]) | skip)
   have H' := Aside0.mk H
   clear H
   have hcz5_0 : w3.cell? ⟨gb132, 0, none⟩ = some (.int .i64 a0_0) := (blk_cell BK132.out 0).trans rfl
   have hcz5_1 : w3.cell? ⟨gb132, 1, none⟩ = some (.int .i64 a0_1) := (blk_cell BK132.out 1).trans rfl
   have hcz5_2 : w3.cell? ⟨gb132, 2, none⟩ = some (.int .i64 a0_2) := (blk_cell BK132.out 2).trans rfl
   have hcz5_3 : w3.cell? ⟨gb132, 3, none⟩ = some (.int .i64 a0_3) := (blk_cell BK132.out 3).trans rfl
   have hcz5_4 : w3.cell? ⟨gb132, 4, none⟩ = some (.int .i64 a0_4) := (blk_cell BK132.out 4).trans rfl
   have hcz5_5 : w3.cell? ⟨gb132, 5, none⟩ = some (.int .i64 a0_5) := (blk_cell BK132.out 5).trans rfl
   have hcz5_6 : w3.cell? ⟨gb132, 6, none⟩ = some (.int .i64 a0_6) := (blk_cell BK132.out 6).trans rfl
   have hcz5_7 : w3.cell? ⟨gb132, 7, none⟩ = some (.string a0_7) := (blk_cell BK132.out 7).trans rfl
   have hcz5_8 : w3.cell? ⟨gb132, 8, none⟩ = some (.string a0_8) := (blk_cell BK132.out 8).trans rfl
   have hcz5_9 : w3.cell? ⟨gb132, 9, none⟩ = some (.slice A0_9 l0_9.length c0_9) := (blk_cell BK132.out 9).trans rfl
   have hcz5_10 : w3.cell? ⟨gb132, 10, none⟩ = some (.slice A0_10 l0_10.length c0_10) := (blk_cell BK132.out 10).trans rfl
   have hcz5_11 : w3.cell? ⟨gb132, 11, none⟩ = some (.int .i64 a0_11) := (blk_cell BK132.out 11).trans rfl
   have hcz5_12 : w3.cell? ⟨gb132, 12, none⟩ = some (.bool a0_12) := (blk_cell BK132.out 12).trans rfl
   have hcz5_13 : w3.cell? ⟨gb132, 13, none⟩ = some (.string a0_13) := (blk_cell BK132.out 13).trans rfl
   have hfz5_0 := blk_frozen BK132.out 0
   have hfz5_1 := blk_frozen BK132.out 1
   have hfz5_2 := blk_frozen BK132.out 2
   have hfz5_3 := blk_frozen BK132.out 3
   have hfz5_4 := blk_frozen BK132.out 4
   have hfz5_5 := blk_frozen BK132.out 5
   have hfz5_6 := blk_frozen BK132.out 6
   have hfz5_7 := blk_frozen BK132.out 7
   have hfz5_8 := blk_frozen BK132.out 8
   have hfz5_9 := blk_frozen BK132.out 9
   have hfz5_10 := blk_frozen BK132.out 10
   have hfz5_11 := blk_frozen BK132.out 11
   have hfz5_12 := blk_frozen BK132.out 12
   have hfz5_13 := blk_frozen BK132.out 13
   go_wp2
   repeat (go_quiet (fail); try go_wp2)
   go_meet
   case rel => exact ⟨_, (true), (by first | rfl | (simp; done) | (simp [*]; done) | (simp [ne_nil_bytes]; done) | (simp [eq_nil_bytes]; done)), H', ⟨by first | omega | exact Nat.le_refl _⟩, ⟨by exact bL BK132.out⟩, ⟨hL HB.out⟩⟩
  rw [if_neg c4] at H
  have c4b0 : decide (300 < (l0_9.length : Int)) = false := decide_eq_false c4
  have c4b1 : decide (300 < l0_9.length) = false := decide_eq_false (by omega)
  clear c4
  (first | rw [c4b0] | (simp only [i64_w, i32_w]; rw [c4b0]) | skip)
  have H' := Aside0.mk H
  clear H
  have hcz6_0 : w3.cell? ⟨gb132, 0, none⟩ = some (.int .i64 a0_0) := (blk_cell BK132.out 0).trans rfl
  have hcz6_1 : w3.cell? ⟨gb132, 1, none⟩ = some (.int .i64 a0_1) := (blk_cell BK132.out 1).trans rfl
  have hcz6_2 : w3.cell? ⟨gb132, 2, none⟩ = some (.int .i64 a0_2) := (blk_cell BK132.out 2).trans rfl
  have hcz6_3 : w3.cell? ⟨gb132, 3, none⟩ = some (.int .i64 a0_3) := (blk_cell BK132.out 3).trans rfl
  have hcz6_4 : w3.cell? ⟨gb132, 4, none⟩ = some (.int .i64 a0_4) := (blk_cell BK132.out 4).trans rfl
  have hcz6_5 : w3.cell? ⟨gb132, 5, none⟩ = some (.int .i64 a0_5) := (blk_cell BK132.out 5).trans rfl
  have hcz6_6 : w3.cell? ⟨gb132, 6, none⟩ = some (.int .i64 a0_6) := (blk_cell BK132.out 6).trans rfl
  have hcz6_7 : w3.cell? ⟨gb132, 7, none⟩ = some (.string a0_7) := (blk_cell BK132.out 7).trans rfl
  have hcz6_8 : w3.cell? ⟨gb132, 8, none⟩ = some (.string a0_8) := (blk_cell BK132.out 8).trans rfl
  have hcz6_9 : w3.cell? ⟨gb132, 9, none⟩ = some (.slice A0_9 l0_9.length c0_9) := (blk_cell BK132.out 9).trans rfl
  have hcz6_10 : w3.cell? ⟨gb132, 10, none⟩ = some (.slice A0_10 l0_10.length c0_10) := (blk_cell BK132.out 10).trans rfl
  have hcz6_11 : w3.cell? ⟨gb132, 11, none⟩ = some (.int .i64 a0_11) := (blk_cell BK132.out 11).trans rfl
  have hcz6_12 : w3.cell? ⟨gb132, 12, none⟩ = some (.bool a0_12) := (blk_cell BK132.out 12).trans rfl
  have hcz6_13 : w3.cell? ⟨gb132, 13, none⟩ = some (.string a0_13) := (blk_cell BK132.out 13).trans rfl
  have hfz6_0 := blk_frozen BK132.out 0
  have hfz6_1 := blk_frozen BK132.out 1
  have hfz6_2 := blk_frozen BK132.out 2
  have hfz6_3 := blk_frozen BK132.out 3
  have hfz6_4 := blk_frozen BK132.out 4
  have hfz6_5 := blk_frozen BK132.out 5
  have hfz6_6 := blk_frozen BK132.out 6
  have hfz6_7 := blk_frozen BK132.out 7
  have hfz6_8 := blk_frozen BK132.out 8
  have hfz6_9 := blk_frozen BK132.out 9
  have hfz6_10 := blk_frozen BK132.out 10
  have hfz6_11 := blk_frozen BK132.out 11
  have hfz6_12 := blk_frozen BK132.out 12
  have hfz6_13 := blk_frozen BK132.out 13
  go_wp2
  repeat (go_quiet (fail); try go_wp2)
  go_meet
  case rel => exact ⟨_, (decide ((l0_10.length : Int) > 300)), (by first | rfl | (simp; done) | (simp [*]; done) | (simp [ne_nil_bytes]; done) | (simp [eq_nil_bytes]; done)), H', ⟨by first | omega | exact Nat.le_refl _⟩, ⟨by exact bL BK132.out⟩, ⟨hL HB.out⟩⟩
 clear HC2
 try clear c1
 try clear p2
 try clear c4
 try clear c4b0
 try clear c4b0z
 try clear c4b1
 try clear c4b1z
 try clear hcz5_0
 try clear hcz5_1
 try clear hcz5_10
 try clear hcz5_11
 try clear hcz5_12
 try clear hcz5_13
 try clear hcz5_2
 try clear hcz5_3
 try clear hcz5_4
 try clear hcz5_5
 try clear hcz5_6
 try clear hcz5_7
 try clear hcz5_8
 try clear hcz5_9
 try clear hcz6_0
 try clear hcz6_1
 try clear hcz6_10
 try clear hcz6_11
 try clear hcz6_12
 try clear hcz6_13
 try clear hcz6_2
 try clear hcz6_3
 try clear hcz6_4
 try clear hcz6_5
 try clear hcz6_6
 try clear hcz6_7
 try clear hcz6_8
 try clear hcz6_9
 try clear hfz5_0
 try clear hfz5_1
 try clear hfz5_10
 try clear hfz5_11
 try clear hfz5_12
 try clear hfz5_13
 try clear hfz5_2
 try clear hfz5_3
 try clear hfz5_4
 try clear hfz5_5
 try clear hfz5_6
 try clear hfz5_7
 try clear hfz5_8
 try clear hfz5_9
 try clear hfz6_0
 try clear hfz6_1
 try clear hfz6_10
 try clear hfz6_11
 try clear hfz6_12
 try clear hfz6_13
 try clear hfz6_2
 try clear hfz6_3
 try clear hfz6_4
 try clear hfz6_5
 try clear hfz6_6
 try clear hfz6_7
 try clear hfz6_8
 try clear hfz6_9
 obtain ⟨kq, x15_1, rfl, HA, HJ1, BK132, HB⟩ := hcut
 rcases kq with _ | kj1
 ·exact absurd HA.out (by simp [shelfmarkref13_Light.j0])
 have H := HA.out
 clear HA
 simp only [shelfmarkref13_Light.j0] at H
 by_cases c7 : x15_1 = true
 ·subst c7
  have H1 : (some false) = some r := by rw [if_pos rfl] at H; exact H
  clear H
  have H := H1
  clear H1
  obtain rfl := Option.some.inj H
  simp only [Option.some.injEq, Prod.mk.injEq] at H
  obtain ⟨rfl⟩ := H
  go_wp2
  repeat (go_quiet (fail); try go_wp2)
  go_ret
  exact ⟨by first | rfl | (simp [errW_none, errW_some] <;> rfl) | (simp [*, errW_none, errW_some] <;> rfl), hL HB.out⟩
 replace c7 := Bool.eq_false_iff.mpr c7
 subst c7
 have H1 : (shelfmarkref13_Light.l0 kj1 (((mn (a0_7.size : Int) 100000) + (mn (a0_8.size : Int) 100000)) + (mn (a0_13.size : Int) 100000)) 0 a0_0 a0_1 a0_2 a0_3 a0_4 a0_5 a0_6 a0_7 a0_8 l0_9 l0_10 a0_11 a0_12 a0_13) = some r := by rw [if_neg (show ¬ (false = true) by decide)] at H; exact H
 clear H
 have H := H1
 clear H1
 obtain ⟨ji8, hji8⟩ : ∃ j_ : Int, (mn (a0_7.size : Int) 100000) = j_ := ⟨_, rfl⟩
 replace H : (shelfmarkref13_Light.l0 kj1 (((ji8) + (mn (a0_8.size : Int) 100000)) + (mn (a0_13.size : Int) 100000)) 0 a0_0 a0_1 a0_2 a0_3 a0_4 a0_5 a0_6 a0_7 a0_8 l0_9 l0_10 a0_11 a0_12 a0_13) = some r := by first | (rw [hji8] at H; exact H) | (simp only [hji8] at H ⊢; exact H)
 have hji8_ : (if 100000 < (a0_7.size : Int) then 100000 else (a0_7.size : Int)) = ji8 := hji8
 obtain ⟨ji9, hji9⟩ : ∃ j_ : Int, (mn (a0_8.size : Int) 100000) = j_ := ⟨_, rfl⟩
 replace H : (shelfmarkref13_Light.l0 kj1 (((ji8) + (ji9)) + (mn (a0_13.size : Int) 100000)) 0 a0_0 a0_1 a0_2 a0_3 a0_4 a0_5 a0_6 a0_7 a0_8 l0_9 l0_10 a0_11 a0_12 a0_13) = some r := by first | (rw [hji9] at H; exact H) | (simp only [hji9] at H ⊢; exact H)
 have hji9_ : (if 100000 < (a0_8.size : Int) then 100000 else (a0_8.size : Int)) = ji9 := hji9
 obtain ⟨ji10, hji10⟩ : ∃ j_ : Int, (mn (a0_13.size : Int) 100000) = j_ := ⟨_, rfl⟩
 replace H : (shelfmarkref13_Light.l0 kj1 (((ji8) + (ji9)) + (ji10)) 0 a0_0 a0_1 a0_2 a0_3 a0_4 a0_5 a0_6 a0_7 a0_8 l0_9 l0_10 a0_11 a0_12 a0_13) = some r := by first | (rw [hji10] at H; exact H) | (simp only [hji10] at H ⊢; exact H)
 have hji10_ : (if 100000 < (a0_13.size : Int) then 100000 else (a0_13.size : Int)) = ji10 := hji10
 have HC11 := Aside0.mk H
 clear H
 have hcz12_0 : wc.cell? ⟨gb132, 0, none⟩ = some (.int .i64 a0_0) := (blk_cell BK132.out 0).trans rfl
 have hcz12_1 : wc.cell? ⟨gb132, 1, none⟩ = some (.int .i64 a0_1) := (blk_cell BK132.out 1).trans rfl
 have hcz12_2 : wc.cell? ⟨gb132, 2, none⟩ = some (.int .i64 a0_2) := (blk_cell BK132.out 2).trans rfl
 have hcz12_3 : wc.cell? ⟨gb132, 3, none⟩ = some (.int .i64 a0_3) := (blk_cell BK132.out 3).trans rfl
 have hcz12_4 : wc.cell? ⟨gb132, 4, none⟩ = some (.int .i64 a0_4) := (blk_cell BK132.out 4).trans rfl
 have hcz12_5 : wc.cell? ⟨gb132, 5, none⟩ = some (.int .i64 a0_5) := (blk_cell BK132.out 5).trans rfl
 have hcz12_6 : wc.cell? ⟨gb132, 6, none⟩ = some (.int .i64 a0_6) := (blk_cell BK132.out 6).trans rfl
 have hcz12_7 : wc.cell? ⟨gb132, 7, none⟩ = some (.string a0_7) := (blk_cell BK132.out 7).trans rfl
 have hcz12_8 : wc.cell? ⟨gb132, 8, none⟩ = some (.string a0_8) := (blk_cell BK132.out 8).trans rfl
 have hcz12_9 : wc.cell? ⟨gb132, 9, none⟩ = some (.slice A0_9 l0_9.length c0_9) := (blk_cell BK132.out 9).trans rfl
 have hcz12_10 : wc.cell? ⟨gb132, 10, none⟩ = some (.slice A0_10 l0_10.length c0_10) := (blk_cell BK132.out 10).trans rfl
 have hcz12_11 : wc.cell? ⟨gb132, 11, none⟩ = some (.int .i64 a0_11) := (blk_cell BK132.out 11).trans rfl
 have hcz12_12 : wc.cell? ⟨gb132, 12, none⟩ = some (.bool a0_12) := (blk_cell BK132.out 12).trans rfl
 have hcz12_13 : wc.cell? ⟨gb132, 13, none⟩ = some (.string a0_13) := (blk_cell BK132.out 13).trans rfl
 have hfz12_0 := blk_frozen BK132.out 0
 have hfz12_1 := blk_frozen BK132.out 1
 have hfz12_2 := blk_frozen BK132.out 2
 have hfz12_3 := blk_frozen BK132.out 3
 have hfz12_4 := blk_frozen BK132.out 4
 have hfz12_5 := blk_frozen BK132.out 5
 have hfz12_6 := blk_frozen BK132.out 6
 have hfz12_7 := blk_frozen BK132.out 7
 have hfz12_8 := blk_frozen BK132.out 8
 have hfz12_9 := blk_frozen BK132.out 9
 have hfz12_10 := blk_frozen BK132.out 10
 have hfz12_11 := blk_frozen BK132.out 11
 have hfz12_12 := blk_frozen BK132.out 12
 have hfz12_13 := blk_frozen BK132.out 13
 go_upto_block 0 with (fail)
 repeat (go_quiet (fail); go_upto_block 0 with (fail))
 go_cut [3] (fun v3 wc => ∃ (kq : Nat) (x3_10 : Int), v3 = .int .i64 x3_10 ∧ Aside0 (shelfmarkref13_Light.j2 kq x3_10 a0_0 a0_1 a0_2 a0_3 a0_4 a0_5 a0_6 a0_7 a0_8 l0_9 l0_10 a0_11 a0_12 a0_13 = some r) ∧ Aside0 (kq ≤ kj1) ∧ Aside0 (wc.heap[gb132]? = some (.cells #[.int .i64 a0_0, .int .i64 a0_1, .int .i64 a0_2, .int .i64 a0_3, .int .i64 a0_4, .int .i64 a0_5, .int .i64 a0_6, .string a0_7, .string a0_8, (.slice A0_9 l0_9.length c0_9), (.slice A0_10 l0_10.length c0_10), .int .i64 a0_11, .bool a0_12, .string a0_13] 27 (0, 0))) ∧ Aside0 (Below w.heap.size w wc))
 case first =>
  have H := HC11.out
  clear HC11
  have H' := Aside0.mk H
  clear H
  go_wp2
  repeat (go_quiet (fail); try go_wp2)
  go_loopg [3, 4] kj1 (fun kq v3 v4 w' => ∃ (x3_2 : Int) (x4_2 : Int), v3 = .int .i64 x3_2 ∧ v4 = .int .i64 x4_2 ∧ Aside0 (shelfmarkref13_Light.l0 kq x3_2 x4_2 a0_0 a0_1 a0_2 a0_3 a0_4 a0_5 a0_6 a0_7 a0_8 l0_9 l0_10 a0_11 a0_12 a0_13 = some r) ∧ Aside0 (kq ≤ kj1) ∧ Aside0 (w'.heap[gb132]? = some (.cells #[.int .i64 a0_0, .int .i64 a0_1, .int .i64 a0_2, .int .i64 a0_3, .int .i64 a0_4, .int .i64 a0_5, .int .i64 a0_6, .string a0_7, .string a0_8, (.slice A0_9 l0_9.length c0_9), (.slice A0_10 l0_10.length c0_10), .int .i64 a0_11, .bool a0_12, .string a0_13] 27 (0, 0))) ∧ Aside0 (Below w.heap.size w w'))
  case atStart => exact ⟨(((ji8) + (ji9)) + (ji10)), (0), (by first | rfl | (simp; done) | (simp only [← hji8, ← hji9, ← hji10] <;> (first | rfl | simp)) | (simp [*]; done)), (by first | rfl | (simp; done) | (simp [*]; done) | (simp [ne_nil_bytes]; done) | (simp [eq_nil_bytes]; done)), H', ⟨Nat.le_refl _⟩, ⟨by exact bL BK132.out⟩, ⟨hL HB.out⟩⟩
  clear H'
  try clear c1
  try clear p2
  try clear c4
  try clear c4b0
  try clear c4b0z
  try clear c4b1
  try clear c4b1z
  try clear c7
  try clear c12
  try clear hcz12_0
  try clear hcz12_1
  try clear hcz12_10
  try clear hcz12_11
  try clear hcz12_12
  try clear hcz12_13
  try clear hcz12_2
  try clear hcz12_3
  try clear hcz12_4
  try clear hcz12_5
  try clear hcz12_6
  try clear hcz12_7
  try clear hcz12_8
  try clear hcz12_9
  try clear hcz5_0
  try clear hcz5_1
  try clear hcz5_10
  try clear hcz5_11
  try clear hcz5_12
  try clear hcz5_13
  try clear hcz5_2
  try clear hcz5_3
  try clear hcz5_4
  try clear hcz5_5
  try clear hcz5_6
  try clear hcz5_7
  try clear hcz5_8
  try clear hcz5_9
  try clear hcz6_0
  try clear hcz6_1
  try clear hcz6_10
  try clear hcz6_11
  try clear hcz6_12
  try clear hcz6_13
  try clear hcz6_2
  try clear hcz6_3
  try clear hcz6_4
  try clear hcz6_5
  try clear hcz6_6
  try clear hcz6_7
  try clear hcz6_8
  try clear hcz6_9
  try clear hfz12_0
  try clear hfz12_1
  try clear hfz12_10
  try clear hfz12_11
  try clear hfz12_12
  try clear hfz12_13
  try clear hfz12_2
  try clear hfz12_3
  try clear hfz12_4
  try clear hfz12_5
  try clear hfz12_6
  try clear hfz12_7
  try clear hfz12_8
  try clear hfz12_9
  try clear hfz5_0
  try clear hfz5_1
  try clear hfz5_10
  try clear hfz5_11
  try clear hfz5_12
  try clear hfz5_13
  try clear hfz5_2
  try clear hfz5_3
  try clear hfz5_4
  try clear hfz5_5
  try clear hfz5_6
  try clear hfz5_7
  try clear hfz5_8
  try clear hfz5_9
  try clear hfz6_0
  try clear hfz6_1
  try clear hfz6_10
  try clear hfz6_11
  try clear hfz6_12
  try clear hfz6_13
  try clear hfz6_2
  try clear hfz6_3
  try clear hfz6_4
  try clear hfz6_5
  try clear hfz6_6
  try clear hfz6_7
  try clear hfz6_8
  try clear hfz6_9
  try clear p2
  obtain ⟨x3_2, x4_2, rfl, rfl, HA, HK2, BK132, HB⟩ := hrel
  rcases gk with _ | k2
  ·exact absurd HA.out (by simp [shelfmarkref13_Light.l0])
  have H := HA.out
  clear HA
  simp only [shelfmarkref13_Light.l0] at H
  by_cases c13 : x4_2 < (l0_9.length : Int)
  rotate_left
  ·rw [if_neg c13] at H
   have c13b0 : decide (x4_2 < (l0_9.length : Int)) = false := decide_eq_false c13
   clear c13
   (first | rw [c13b0] | (simp only [i64_w, i32_w]; rw [c13b0]) | skip)
   have H' := Aside0.mk H
   clear H
   have hcz20_0 : wr.cell? ⟨gb132, 0, none⟩ = some (.int .i64 a0_0) := (blk_cell BK132.out 0).trans rfl
   have hcz20_1 : wr.cell? ⟨gb132, 1, none⟩ = some (.int .i64 a0_1) := (blk_cell BK132.out 1).trans rfl
   have hcz20_2 : wr.cell? ⟨gb132, 2, none⟩ = some (.int .i64 a0_2) := (blk_cell BK132.out 2).trans rfl
   have hcz20_3 : wr.cell? ⟨gb132, 3, none⟩ = some (.int .i64 a0_3) := (blk_cell BK132.out 3).trans rfl
   have hcz20_4 : wr.cell? ⟨gb132, 4, none⟩ = some (.int .i64 a0_4) := (blk_cell BK132.out 4).trans rfl
   have hcz20_5 : wr.cell? ⟨gb132, 5, none⟩ = some (.int .i64 a0_5) := (blk_cell BK132.out 5).trans rfl
   have hcz20_6 : wr.cell? ⟨gb132, 6, none⟩ = some (.int .i64 a0_6) := (blk_cell BK132.out 6).trans rfl
   have hcz20_7 : wr.cell? ⟨gb132, 7, none⟩ = some (.string a0_7) := (blk_cell BK132.out 7).trans rfl
   have hcz20_8 : wr.cell? ⟨gb132, 8, none⟩ = some (.string a0_8) := (blk_cell BK132.out 8).trans rfl
   have hcz20_9 : wr.cell? ⟨gb132, 9, none⟩ = some (.slice A0_9 l0_9.length c0_9) := (blk_cell BK132.out 9).trans rfl
   have hcz20_10 : wr.cell? ⟨gb132, 10, none⟩ = some (.slice A0_10 l0_10.length c0_10) := (blk_cell BK132.out 10).trans rfl
   have hcz20_11 : wr.cell? ⟨gb132, 11, none⟩ = some (.int .i64 a0_11) := (blk_cell BK132.out 11).trans rfl
   have hcz20_12 : wr.cell? ⟨gb132, 12, none⟩ = some (.bool a0_12) := (blk_cell BK132.out 12).trans rfl
   have hcz20_13 : wr.cell? ⟨gb132, 13, none⟩ = some (.string a0_13) := (blk_cell BK132.out 13).trans rfl
   have hfz20_0 := blk_frozen BK132.out 0
   have hfz20_1 := blk_frozen BK132.out 1
   have hfz20_2 := blk_frozen BK132.out 2
   have hfz20_3 := blk_frozen BK132.out 3
   have hfz20_4 := blk_frozen BK132.out 4
   have hfz20_5 := blk_frozen BK132.out 5
   have hfz20_6 := blk_frozen BK132.out 6
   have hfz20_7 := blk_frozen BK132.out 7
   have hfz20_8 := blk_frozen BK132.out 8
   have hfz20_9 := blk_frozen BK132.out 9
   have hfz20_10 := blk_frozen BK132.out 10
   have hfz20_11 := blk_frozen BK132.out 11
   have hfz20_12 := blk_frozen BK132.out 12
   have hfz20_13 := blk_frozen BK132.out 13
   go_wp2
   repeat (go_quiet (fail); try go_wp2)
   go_meet
   case rel => exact ⟨_, (x3_2), (by first | rfl | (simp; done) | (simp [*]; done) | (simp [ne_nil_bytes]; done) | (simp [eq_nil_bytes]; done)), H', ⟨by have := HJ1.out; have := HK2.out; first | omega | exact Nat.le_refl _⟩, ⟨by exact bL BK132.out⟩, ⟨hL HB.out⟩⟩
  rw [if_pos c13] at H
  have c13b0 : decide (x4_2 < (l0_9.length : Int)) = true := decide_eq_true c13
  clear c13
  (first | rw [c13b0] | (simp only [i64_w, i32_w]; rw [c13b0]) | skip)
  by_cases c14 : x3_2 ≤ 100000
  rotate_left
  ·rw [if_neg c14] at H
   have c14b0 : decide (x3_2 ≤ 100000) = false := decide_eq_false c14
   clear c14
   have H' := Aside0.mk H
   clear H
   have hcz19_0 : wr.cell? ⟨gb132, 0, none⟩ = some (.int .i64 a0_0) := (blk_cell BK132.out 0).trans rfl
   have hcz19_1 : wr.cell? ⟨gb132, 1, none⟩ = some (.int .i64 a0_1) := (blk_cell BK132.out 1).trans rfl
   have hcz19_2 : wr.cell? ⟨gb132, 2, none⟩ = some (.int .i64 a0_2) := (blk_cell BK132.out 2).trans rfl
   have hcz19_3 : wr.cell? ⟨gb132, 3, none⟩ = some (.int .i64 a0_3) := (blk_cell BK132.out 3).trans rfl
   have hcz19_4 : wr.cell? ⟨gb132, 4, none⟩ = some (.int .i64 a0_4) := (blk_cell BK132.out 4).trans rfl
   have hcz19_5 : wr.cell? ⟨gb132, 5, none⟩ = some (.int .i64 a0_5) := (blk_cell BK132.out 5).trans rfl
   have hcz19_6 : wr.cell? ⟨gb132, 6, none⟩ = some (.int .i64 a0_6) := (blk_cell BK132.out 6).trans rfl
   have hcz19_7 : wr.cell? ⟨gb132, 7, none⟩ = some (.string a0_7) := (blk_cell BK132.out 7).trans rfl
   have hcz19_8 : wr.cell? ⟨gb132, 8, none⟩ = some (.string a0_8) := (blk_cell BK132.out 8).trans rfl
   have hcz19_9 : wr.cell? ⟨gb132, 9, none⟩ = some (.slice A0_9 l0_9.length c0_9) := (blk_cell BK132.out 9).trans rfl
   have hcz19_10 : wr.cell? ⟨gb132, 10, none⟩ = some (.slice A0_10 l0_10.length c0_10) := (blk_cell BK132.out 10).trans rfl
   have hcz19_11 : wr.cell? ⟨gb132, 11, none⟩ = some (.int .i64 a0_11) := (blk_cell BK132.out 11).trans rfl
   have hcz19_12 : wr.cell? ⟨gb132, 12, none⟩ = some (.bool a0_12) := (blk_cell BK132.out 12).trans rfl
   have hcz19_13 : wr.cell? ⟨gb132, 13, none⟩ = some (.string a0_13) := (blk_cell BK132.out 13).trans rfl
   have hfz19_0 := blk_frozen BK132.out 0
   have hfz19_1 := blk_frozen BK132.out 1
   have hfz19_2 := blk_frozen BK132.out 2
   have hfz19_3 := blk_frozen BK132.out 3
   have hfz19_4 := blk_frozen BK132.out 4
   have hfz19_5 := blk_frozen BK132.out 5
   have hfz19_6 := blk_frozen BK132.out 6
   have hfz19_7 := blk_frozen BK132.out 7
   have hfz19_8 := blk_frozen BK132.out 8
   have hfz19_9 := blk_frozen BK132.out 9
   have hfz19_10 := blk_frozen BK132.out 10
   have hfz19_11 := blk_frozen BK132.out 11
   have hfz19_12 := blk_frozen BK132.out 12
   have hfz19_13 := blk_frozen BK132.out 13
   go_wp2
   repeat (go_quiet (fail); try go_wp2)
   go_meet
   case rel => exact ⟨_, (x3_2), (by first | rfl | (simp; done) | (simp [*]; done) | (simp [ne_nil_bytes]; done) | (simp [eq_nil_bytes]; done)), H', ⟨by have := HJ1.out; have := HK2.out; first | omega | exact Nat.le_refl _⟩, ⟨by exact bL BK132.out⟩, ⟨hL HB.out⟩⟩
  rw [if_pos c14] at H
  have c14b0 : decide (x3_2 ≤ 100000) = true := decide_eq_true c14
  clear c14
  by_cases c15 : 0 ≤ x4_2
  rotate_left
  ·rw [if_neg c15] at H
   exact absurd H (by simp)
  rw [if_pos c15] at H
  have c15b0 : decide (0 ≤ x4_2) = true := decide_eq_true c15
  clear c15
  obtain ⟨ji16, hji16⟩ : ∃ j_ : Int, (mn (((rd_T39 l0_9 x4_2).f0).size : Int) 100001) = j_ := ⟨_, rfl⟩
  replace H : (shelfmarkref13_Light.l0 k2 (wrap64 ((wrap64 (x3_2 + (ji16))) + (mn (((rd_T39 l0_9 x4_2).f1).size : Int) 100001))) (wrap64 (x4_2 + 1)) a0_0 a0_1 a0_2 a0_3 a0_4 a0_5 a0_6 a0_7 a0_8 l0_9 l0_10 a0_11 a0_12 a0_13) = some r := by first | (rw [hji16] at H; exact H) | (simp only [hji16] at H ⊢; exact H)
  have hji16_ : (if 100001 < (((rd_T39 l0_9 x4_2).f0).size : Int) then 100001 else (((rd_T39 l0_9 x4_2).f0).size : Int)) = ji16 := hji16
  obtain ⟨ji17, hji17⟩ : ∃ j_ : Int, (mn (((rd_T39 l0_9 x4_2).f1).size : Int) 100001) = j_ := ⟨_, rfl⟩
  replace H : (shelfmarkref13_Light.l0 k2 (wrap64 ((wrap64 (x3_2 + (ji16))) + (ji17))) (wrap64 (x4_2 + 1)) a0_0 a0_1 a0_2 a0_3 a0_4 a0_5 a0_6 a0_7 a0_8 l0_9 l0_10 a0_11 a0_12 a0_13) = some r := by first | (rw [hji17] at H; exact H) | (simp only [hji17] at H ⊢; exact H)
  have hji17_ : (if 100001 < (((rd_T39 l0_9 x4_2).f1).size : Int) then 100001 else (((rd_T39 l0_9 x4_2).f1).size : Int)) = ji17 := hji17
  have H' := Aside0.mk H
  clear H
  have hcz18_0 : wr.cell? ⟨gb132, 0, none⟩ = some (.int .i64 a0_0) := (blk_cell BK132.out 0).trans rfl
  have hcz18_1 : wr.cell? ⟨gb132, 1, none⟩ = some (.int .i64 a0_1) := (blk_cell BK132.out 1).trans rfl
  have hcz18_2 : wr.cell? ⟨gb132, 2, none⟩ = some (.int .i64 a0_2) := (blk_cell BK132.out 2).trans rfl
  have hcz18_3 : wr.cell? ⟨gb132, 3, none⟩ = some (.int .i64 a0_3) := (blk_cell BK132.out 3).trans rfl
  have hcz18_4 : wr.cell? ⟨gb132, 4, none⟩ = some (.int .i64 a0_4) := (blk_cell BK132.out 4).trans rfl
  have hcz18_5 : wr.cell? ⟨gb132, 5, none⟩ = some (.int .i64 a0_5) := (blk_cell BK132.out 5).trans rfl
  have hcz18_6 : wr.cell? ⟨gb132, 6, none⟩ = some (.int .i64 a0_6) := (blk_cell BK132.out 6).trans rfl
  have hcz18_7 : wr.cell? ⟨gb132, 7, none⟩ = some (.string a0_7) := (blk_cell BK132.out 7).trans rfl
  have hcz18_8 : wr.cell? ⟨gb132, 8, none⟩ = some (.string a0_8) := (blk_cell BK132.out 8).trans rfl
  have hcz18_9 : wr.cell? ⟨gb132, 9, none⟩ = some (.slice A0_9 l0_9.length c0_9) := (blk_cell BK132.out 9).trans rfl
  have hcz18_10 : wr.cell? ⟨gb132, 10, none⟩ = some (.slice A0_10 l0_10.length c0_10) := (blk_cell BK132.out 10).trans rfl
  have hcz18_11 : wr.cell? ⟨gb132, 11, none⟩ = some (.int .i64 a0_11) := (blk_cell BK132.out 11).trans rfl
  have hcz18_12 : wr.cell? ⟨gb132, 12, none⟩ = some (.bool a0_12) := (blk_cell BK132.out 12).trans rfl
  have hcz18_13 : wr.cell? ⟨gb132, 13, none⟩ = some (.string a0_13) := (blk_cell BK132.out 13).trans rfl
  have hfz18_0 := blk_frozen BK132.out 0
  have hfz18_1 := blk_frozen BK132.out 1
  have hfz18_2 := blk_frozen BK132.out 2
  have hfz18_3 := blk_frozen BK132.out 3
  have hfz18_4 := blk_frozen BK132.out 4
  have hfz18_5 := blk_frozen BK132.out 5
  have hfz18_6 := blk_frozen BK132.out 6
  have hfz18_7 := blk_frozen BK132.out 7
  have hfz18_8 := blk_frozen BK132.out 8
  have hfz18_9 := blk_frozen BK132.out 9
  have hfz18_10 := blk_frozen BK132.out 10
  have hfz18_11 := blk_frozen BK132.out 11
  have hfz18_12 := blk_frozen BK132.out 12
  have hfz18_13 := blk_frozen BK132.out 13
  have p133 : 0 ≤ (x4_2 : Int) := of_decide_eq_true (by first | (with_reducible assumption) | assumption)
  have q133 : x4_2 < (l0_9.length : Int) := of_decide_eq_true (by first | (with_reducible assumption) | assumption)
  obtain ⟨ad133, e133, hx133_0, hx133_1⟩ := at_T39 HR0_9.out x4_2 p133 q133
  cases e133
  replace hx133_0 := (HB.out.cell (World.block_lt_of_cell? w _ hx133_0)).trans hx133_0
  replace hx133_1 := (HB.out.cell (World.block_lt_of_cell? w _ hx133_1)).trans hx133_1
  replace p133 := eq_true p133
  replace q133 := eq_true q133
  have p134 : 0 ≤ (x4_2 : Int) := of_decide_eq_true (by first | (with_reducible assumption) | assumption)
  have q134 : x4_2 < (l0_9.length : Int) := of_decide_eq_true (by first | (with_reducible assumption) | assumption)
  obtain ⟨ad134, e134, hx134_0, hx134_1⟩ := at_T39 HR0_9.out x4_2 p134 q134
  obtain rfl : ad133 = ad134 := (by injection e134)
  replace hx134_0 := (HB.out.cell (World.block_lt_of_cell? w _ hx134_0)).trans hx134_0
  replace hx134_1 := (HB.out.cell (World.block_lt_of_cell? w _ hx134_1)).trans hx134_1
  replace p134 := eq_true p134
  replace q134 := eq_true q134
  go_wp2
  repeat (go_quiet (fail); try go_wp2)
  go_roundg k2
  case measure => have := HJ1.out; have := HK2.out; omega
  case rel => exact ⟨(wrap64 ((wrap64 (x3_2 + (ji16))) + (ji17))), (wrap64 (x4_2 + 1)), (by first | rfl | (simp; done) | (simp only [← hji16, ← hji17] <;> (first | rfl | simp)) | (simp [*]; done)), (by first | rfl | (simp; done) | (simp [*]; done) | (simp [ne_nil_bytes]; done) | (simp [eq_nil_bytes]; done)), H', ⟨by have := HJ1.out; have := HK2.out; omega⟩, ⟨by exact bL BK132.out⟩, ⟨hL HB.out⟩⟩
 clear HC11
 try clear c1
 try clear p1
 try clear q1
 try clear hx1
 try clear p2
 try clear c4
 try clear c4b0
 try clear c4b0z
 try clear c4b1
 try clear c4b1z
 try clear p6
 try clear c7
 try clear c12
 try clear c13
 try clear c13b0
 try clear c13b0z
 try clear p13
 try clear q13
 try clear hx13
 try clear c14
 try clear c14b0
 try clear c14b0z
 try clear c15
 try clear c15b0
 try clear c15b0z
 try clear hcz12_0
 try clear hcz12_1
 try clear hcz12_10
 try clear hcz12_11
 try clear hcz12_12
 try clear hcz12_13
 try clear hcz12_2
 try clear hcz12_3
 try clear hcz12_4
 try clear hcz12_5
 try clear hcz12_6
 try clear hcz12_7
 try clear hcz12_8
 try clear hcz12_9
 try clear hcz18_0
 try clear hcz18_1
 try clear hcz18_10
 try clear hcz18_11
 try clear hcz18_12
 try clear hcz18_13
 try clear hcz18_2
 try clear hcz18_3
 try clear hcz18_4
 try clear hcz18_5
 try clear hcz18_6
 try clear hcz18_7
 try clear hcz18_8
 try clear hcz18_9
 try clear hcz19_0
 try clear hcz19_1
 try clear hcz19_10
 try clear hcz19_11
 try clear hcz19_12
 try clear hcz19_13
 try clear hcz19_2
 try clear hcz19_3
 try clear hcz19_4
 try clear hcz19_5
 try clear hcz19_6
 try clear hcz19_7
 try clear hcz19_8
 try clear hcz19_9
 try clear hcz20_0
 try clear hcz20_1
 try clear hcz20_10
 try clear hcz20_11
 try clear hcz20_12
 try clear hcz20_13
 try clear hcz20_2
 try clear hcz20_3
 try clear hcz20_4
 try clear hcz20_5
 try clear hcz20_6
 try clear hcz20_7
 try clear hcz20_8
 try clear hcz20_9
 try clear hcz5_0
 try clear hcz5_1
 try clear hcz5_10
 try clear hcz5_11
 try clear hcz5_12
 try clear hcz5_13
 try clear hcz5_2
 try clear hcz5_3
 try clear hcz5_4
 try clear hcz5_5
 try clear hcz5_6
 try clear hcz5_7
 try clear hcz5_8
 try clear hcz5_9
 try clear hcz6_0
 try clear hcz6_1
 try clear hcz6_10
 try clear hcz6_11
 try clear hcz6_12
 try clear hcz6_13
 try clear hcz6_2
 try clear hcz6_3
 try clear hcz6_4
 try clear hcz6_5
 try clear hcz6_6
 try clear hcz6_7
 try clear hcz6_8
 try clear hcz6_9
 try clear hfz12_0
 try clear hfz12_1
 try clear hfz12_10
 try clear hfz12_11
 try clear hfz12_12
 try clear hfz12_13
 try clear hfz12_2
 try clear hfz12_3
 try clear hfz12_4
 try clear hfz12_5
 try clear hfz12_6
 try clear hfz12_7
 try clear hfz12_8
 try clear hfz12_9
 try clear hfz18_0
 try clear hfz18_1
 try clear hfz18_10
 try clear hfz18_11
 try clear hfz18_12
 try clear hfz18_13
 try clear hfz18_2
 try clear hfz18_3
 try clear hfz18_4
 try clear hfz18_5
 try clear hfz18_6
 try clear hfz18_7
 try clear hfz18_8
 try clear hfz18_9
 try clear hfz19_0
 try clear hfz19_1
 try clear hfz19_10
 try clear hfz19_11
 try clear hfz19_12
 try clear hfz19_13
 try clear hfz19_2
 try clear hfz19_3
 try clear hfz19_4
 try clear hfz19_5
 try clear hfz19_6
 try clear hfz19_7
 try clear hfz19_8
 try clear hfz19_9
 try clear hfz20_0
 try clear hfz20_1
 try clear hfz20_10
 try clear hfz20_11
 try clear hfz20_12
 try clear hfz20_13
 try clear hfz20_2
 try clear hfz20_3
 try clear hfz20_4
 try clear hfz20_5
 try clear hfz20_6
 try clear hfz20_7
 try clear hfz20_8
 try clear hfz20_9
 try clear hfz5_0
 try clear hfz5_1
 try clear hfz5_10
 try clear hfz5_11
 try clear hfz5_12
 try clear hfz5_13
 try clear hfz5_2
 try clear hfz5_3
 try clear hfz5_4
 try clear hfz5_5
 try clear hfz5_6
 try clear hfz5_7
 try clear hfz5_8
 try clear hfz5_9
 try clear hfz6_0
 try clear hfz6_1
 try clear hfz6_10
 try clear hfz6_11
 try clear hfz6_12
 try clear hfz6_13
 try clear hfz6_2
 try clear hfz6_3
 try clear hfz6_4
 try clear hfz6_5
 try clear hfz6_6
 try clear hfz6_7
 try clear hfz6_8
 try clear hfz6_9
 try clear hx133_0
 try clear hx133_1
 try clear hx134_0
 try clear hx134_1
 try clear p133
 try clear p134
 try clear p2
 try clear q133
 try clear q134
 obtain ⟨kq, x3_10, rfl, HA, HJ10, BK132, HB⟩ := hcut
 rcases kq with _ | kj10
 ·exact absurd HA.out (by simp [shelfmarkref13_Light.j2])
 have H := HA.out
 clear HA
 simp only [shelfmarkref13_Light.j2] at H
 have H' := Aside0.mk H
 clear H
 go_wp2
 repeat (go_quiet (fail); try go_wp2)
 go_loopg [3, 5] kj10 (fun kq v3 v5 w' => ∃ (x3_3 : Int) (x5_3 : Int), v3 = .int .i64 x3_3 ∧ v5 = .int .i64 x5_3 ∧ Aside0 (shelfmarkref13_Light.l1 kq x3_3 x5_3 a0_0 a0_1 a0_2 a0_3 a0_4 a0_5 a0_6 a0_7 a0_8 l0_9 l0_10 a0_11 a0_12 a0_13 = some r) ∧ Aside0 (kq ≤ kj10) ∧ Aside0 (w'.heap[gb132]? = some (.cells #[.int .i64 a0_0, .int .i64 a0_1, .int .i64 a0_2, .int .i64 a0_3, .int .i64 a0_4, .int .i64 a0_5, .int .i64 a0_6, .string a0_7, .string a0_8, (.slice A0_9 l0_9.length c0_9), (.slice A0_10 l0_10.length c0_10), .int .i64 a0_11, .bool a0_12, .string a0_13] 27 (0, 0))) ∧ Aside0 (Below w.heap.size w w'))
 case atStart => exact ⟨(x3_10), (0), (by first | rfl | (simp; done) | (simp [*]; done) | (simp [ne_nil_bytes]; done) | (simp [eq_nil_bytes]; done)), (by first | rfl | (simp; done) | (simp [*]; done) | (simp [ne_nil_bytes]; done) | (simp [eq_nil_bytes]; done)), H', ⟨Nat.le_refl _⟩, ⟨by exact bL BK132.out⟩, ⟨hL HB.out⟩⟩
 clear H'
 try clear c1
 try clear p1
 try clear q1
 try clear hx1
 try clear p2
 try clear c4
 try clear c4b0
 try clear c4b0z
 try clear c4b1
 try clear c4b1z
 try clear p6
 try clear c7
 try clear c12
 try clear c13
 try clear c13b0
 try clear c13b0z
 try clear p13
 try clear q13
 try clear hx13
 try clear c14
 try clear c14b0
 try clear c14b0z
 try clear c15
 try clear c15b0
 try clear c15b0z
 try clear hcz12_0
 try clear hcz12_1
 try clear hcz12_10
 try clear hcz12_11
 try clear hcz12_12
 try clear hcz12_13
 try clear hcz12_2
 try clear hcz12_3
 try clear hcz12_4
 try clear hcz12_5
 try clear hcz12_6
 try clear hcz12_7
 try clear hcz12_8
 try clear hcz12_9
 try clear hcz18_0
 try clear hcz18_1
 try clear hcz18_10
 try clear hcz18_11
 try clear hcz18_12
 try clear hcz18_13
 try clear hcz18_2
 try clear hcz18_3
 try clear hcz18_4
 try clear hcz18_5
 try clear hcz18_6
 try clear hcz18_7
 try clear hcz18_8
 try clear hcz18_9
 try clear hcz19_0
 try clear hcz19_1
 try clear hcz19_10
 try clear hcz19_11
 try clear hcz19_12
 try clear hcz19_13
 try clear hcz19_2
 try clear hcz19_3
 try clear hcz19_4
 try clear hcz19_5
 try clear hcz19_6
 try clear hcz19_7
 try clear hcz19_8
 try clear hcz19_9
 try clear hcz20_0
 try clear hcz20_1
 try clear hcz20_10
 try clear hcz20_11
 try clear hcz20_12
 try clear hcz20_13
 try clear hcz20_2
 try clear hcz20_3
 try clear hcz20_4
 try clear hcz20_5
 try clear hcz20_6
 try clear hcz20_7
 try clear hcz20_8
 try clear hcz20_9
 try clear hcz5_0
 try clear hcz5_1
 try clear hcz5_10
 try clear hcz5_11
 try clear hcz5_12
 try clear hcz5_13
 try clear hcz5_2
 try clear hcz5_3
 try clear hcz5_4
 try clear hcz5_5
 try clear hcz5_6
 try clear hcz5_7
 try clear hcz5_8
 try clear hcz5_9
 try clear hcz6_0
 try clear hcz6_1
 try clear hcz6_10
 try clear hcz6_11
 try clear hcz6_12
 try clear hcz6_13
 try clear hcz6_2
 try clear hcz6_3
 try clear hcz6_4
 try clear hcz6_5
 try clear hcz6_6
 try clear hcz6_7
 try clear hcz6_8
 try clear hcz6_9
 try clear hfz12_0
 try clear hfz12_1
 try clear hfz12_10
 try clear hfz12_11
 try clear hfz12_12
 try clear hfz12_13
 try clear hfz12_2
 try clear hfz12_3
 try clear hfz12_4
 try clear hfz12_5
 try clear hfz12_6
 try clear hfz12_7
 try clear hfz12_8
 try clear hfz12_9
 try clear hfz18_0
 try clear hfz18_1
 try clear hfz18_10
 try clear hfz18_11
 try clear hfz18_12
 try clear hfz18_13
 try clear hfz18_2
 try clear hfz18_3
 try clear hfz18_4
 try clear hfz18_5
 try clear hfz18_6
 try clear hfz18_7
 try clear hfz18_8
 try clear hfz18_9
 try clear hfz19_0
 try clear hfz19_1
 try clear hfz19_10
 try clear hfz19_11
 try clear hfz19_12
 try clear hfz19_13
 try clear hfz19_2
 try clear hfz19_3
 try clear hfz19_4
 try clear hfz19_5
 try clear hfz19_6
 try clear hfz19_7
 try clear hfz19_8
 try clear hfz19_9
 try clear hfz20_0
 try clear hfz20_1
 try clear hfz20_10
 try clear hfz20_11
 try clear hfz20_12
 try clear hfz20_13
 try clear hfz20_2
 try clear hfz20_3
 try clear hfz20_4
 try clear hfz20_5
 try clear hfz20_6
 try clear hfz20_7
 try clear hfz20_8
 try clear hfz20_9
 try clear hfz5_0
 try clear hfz5_1
 try clear hfz5_10
 try clear hfz5_11
 try clear hfz5_12
 try clear hfz5_13
 try clear hfz5_2
 try clear hfz5_3
 try clear hfz5_4
 try clear hfz5_5
 try clear hfz5_6
 try clear hfz5_7
 try clear hfz5_8
 try clear hfz5_9
 try clear hfz6_0
 try clear hfz6_1
 try clear hfz6_10
 try clear hfz6_11
 try clear hfz6_12
 try clear hfz6_13
 try clear hfz6_2
 try clear hfz6_3
 try clear hfz6_4
 try clear hfz6_5
 try clear hfz6_6
 try clear hfz6_7
 try clear hfz6_8
 try clear hfz6_9
 try clear hx133_0
 try clear hx133_1
 try clear hx134_0
 try clear hx134_1
 try clear p1
 try clear p13
 try clear p133
 try clear p134
 try clear p2
 try clear p6
 try clear q1
 try clear q13
 try clear q133
 try clear q134
 obtain ⟨x3_3, x5_3, rfl, rfl, HA, HK3, BK132, HB⟩ := hrel
 rcases gk with _ | k3
 ·exact absurd HA.out (by simp [shelfmarkref13_Light.l1])
 have H := HA.out
 clear HA
 simp only [shelfmarkref13_Light.l1] at H
 by_cases c21 : x5_3 < (l0_10.length : Int)
 rotate_left
 ·rw [if_neg c21] at H
  have c21b0 : decide (x5_3 < (l0_10.length : Int)) = false := decide_eq_false c21
  clear c21
  obtain rfl := Option.some.inj H
  simp only [Option.some.injEq, Prod.mk.injEq] at H
  obtain ⟨rfl⟩ := H
  have hcz27_0 : wr.cell? ⟨gb132, 0, none⟩ = some (.int .i64 a0_0) := (blk_cell BK132.out 0).trans rfl
  have hcz27_1 : wr.cell? ⟨gb132, 1, none⟩ = some (.int .i64 a0_1) := (blk_cell BK132.out 1).trans rfl
  have hcz27_2 : wr.cell? ⟨gb132, 2, none⟩ = some (.int .i64 a0_2) := (blk_cell BK132.out 2).trans rfl
  have hcz27_3 : wr.cell? ⟨gb132, 3, none⟩ = some (.int .i64 a0_3) := (blk_cell BK132.out 3).trans rfl
  have hcz27_4 : wr.cell? ⟨gb132, 4, none⟩ = some (.int .i64 a0_4) := (blk_cell BK132.out 4).trans rfl
  have hcz27_5 : wr.cell? ⟨gb132, 5, none⟩ = some (.int .i64 a0_5) := (blk_cell BK132.out 5).trans rfl
  have hcz27_6 : wr.cell? ⟨gb132, 6, none⟩ = some (.int .i64 a0_6) := (blk_cell BK132.out 6).trans rfl
  have hcz27_7 : wr.cell? ⟨gb132, 7, none⟩ = some (.string a0_7) := (blk_cell BK132.out 7).trans rfl
  have hcz27_8 : wr.cell? ⟨gb132, 8, none⟩ = some (.string a0_8) := (blk_cell BK132.out 8).trans rfl
  have hcz27_9 : wr.cell? ⟨gb132, 9, none⟩ = some (.slice A0_9 l0_9.length c0_9) := (blk_cell BK132.out 9).trans rfl
  have hcz27_10 : wr.cell? ⟨gb132, 10, none⟩ = some (.slice A0_10 l0_10.length c0_10) := (blk_cell BK132.out 10).trans rfl
  have hcz27_11 : wr.cell? ⟨gb132, 11, none⟩ = some (.int .i64 a0_11) := (blk_cell BK132.out 11).trans rfl
  have hcz27_12 : wr.cell? ⟨gb132, 12, none⟩ = some (.bool a0_12) := (blk_cell BK132.out 12).trans rfl
  have hcz27_13 : wr.cell? ⟨gb132, 13, none⟩ = some (.string a0_13) := (blk_cell BK132.out 13).trans rfl
  have hfz27_0 := blk_frozen BK132.out 0
  have hfz27_1 := blk_frozen BK132.out 1
  have hfz27_2 := blk_frozen BK132.out 2
  have hfz27_3 := blk_frozen BK132.out 3
  have hfz27_4 := blk_frozen BK132.out 4
  have hfz27_5 := blk_frozen BK132.out 5
  have hfz27_6 := blk_frozen BK132.out 6
  have hfz27_7 := blk_frozen BK132.out 7
  have hfz27_8 := blk_frozen BK132.out 8
  have hfz27_9 := blk_frozen BK132.out 9
  have hfz27_10 := blk_frozen BK132.out 10
  have hfz27_11 := blk_frozen BK132.out 11
  have hfz27_12 := blk_frozen BK132.out 12
  have hfz27_13 := blk_frozen BK132.out 13
  go_wp2
  repeat (go_quiet (fail); try go_wp2)
  go_ret
  exact ⟨by first | rfl | (simp [errW_none, errW_some] <;> rfl) | (simp only [← hji8, ← hji9, ← hji10]; first | rfl | (simp [errW_none, errW_some] <;> rfl)) | (simp [*, errW_none, errW_some] <;> rfl), hL HB.out⟩
 rw [if_pos c21] at H
 have c21b0 : decide (x5_3 < (l0_10.length : Int)) = true := decide_eq_true c21
 clear c21
 by_cases c22 : x3_3 ≤ 100000
 rotate_left
 ·rw [if_neg c22] at H
  have c22b0 : decide (x3_3 ≤ 100000) = false := decide_eq_false c22
  clear c22
  obtain rfl := Option.some.inj H
  simp only [Option.some.injEq, Prod.mk.injEq] at H
  obtain ⟨rfl⟩ := H
  have hcz26_0 : wr.cell? ⟨gb132, 0, none⟩ = some (.int .i64 a0_0) := (blk_cell BK132.out 0).trans rfl
  have hcz26_1 : wr.cell? ⟨gb132, 1, none⟩ = some (.int .i64 a0_1) := (blk_cell BK132.out 1).trans rfl
  have hcz26_2 : wr.cell? ⟨gb132, 2, none⟩ = some (.int .i64 a0_2) := (blk_cell BK132.out 2).trans rfl
  have hcz26_3 : wr.cell? ⟨gb132, 3, none⟩ = some (.int .i64 a0_3) := (blk_cell BK132.out 3).trans rfl
  have hcz26_4 : wr.cell? ⟨gb132, 4, none⟩ = some (.int .i64 a0_4) := (blk_cell BK132.out 4).trans rfl
  have hcz26_5 : wr.cell? ⟨gb132, 5, none⟩ = some (.int .i64 a0_5) := (blk_cell BK132.out 5).trans rfl
  have hcz26_6 : wr.cell? ⟨gb132, 6, none⟩ = some (.int .i64 a0_6) := (blk_cell BK132.out 6).trans rfl
  have hcz26_7 : wr.cell? ⟨gb132, 7, none⟩ = some (.string a0_7) := (blk_cell BK132.out 7).trans rfl
  have hcz26_8 : wr.cell? ⟨gb132, 8, none⟩ = some (.string a0_8) := (blk_cell BK132.out 8).trans rfl
  have hcz26_9 : wr.cell? ⟨gb132, 9, none⟩ = some (.slice A0_9 l0_9.length c0_9) := (blk_cell BK132.out 9).trans rfl
  have hcz26_10 : wr.cell? ⟨gb132, 10, none⟩ = some (.slice A0_10 l0_10.length c0_10) := (blk_cell BK132.out 10).trans rfl
  have hcz26_11 : wr.cell? ⟨gb132, 11, none⟩ = some (.int .i64 a0_11) := (blk_cell BK132.out 11).trans rfl
  have hcz26_12 : wr.cell? ⟨gb132, 12, none⟩ = some (.bool a0_12) := (blk_cell BK132.out 12).trans rfl
  have hcz26_13 : wr.cell? ⟨gb132, 13, none⟩ = some (.string a0_13) := (blk_cell BK132.out 13).trans rfl
  have hfz26_0 := blk_frozen BK132.out 0
  have hfz26_1 := blk_frozen BK132.out 1
  have hfz26_2 := blk_frozen BK132.out 2
  have hfz26_3 := blk_frozen BK132.out 3
  have hfz26_4 := blk_frozen BK132.out 4
  have hfz26_5 := blk_frozen BK132.out 5
  have hfz26_6 := blk_frozen BK132.out 6
  have hfz26_7 := blk_frozen BK132.out 7
  have hfz26_8 := blk_frozen BK132.out 8
  have hfz26_9 := blk_frozen BK132.out 9
  have hfz26_10 := blk_frozen BK132.out 10
  have hfz26_11 := blk_frozen BK132.out 11
  have hfz26_12 := blk_frozen BK132.out 12
  have hfz26_13 := blk_frozen BK132.out 13
  go_wp2
  repeat (go_quiet (fail); try go_wp2)
  go_ret
  exact ⟨by first | rfl | (simp [errW_none, errW_some] <;> rfl) | (simp only [← hji8, ← hji9, ← hji10]; first | rfl | (simp [errW_none, errW_some] <;> rfl)) | (simp [*, errW_none, errW_some] <;> rfl), hL HB.out⟩
 rw [if_pos c22] at H
 have c22b0 : decide (x3_3 ≤ 100000) = true := decide_eq_true c22
 clear c22
 by_cases c23 : 0 ≤ x5_3
 rotate_left
 ·rw [if_neg c23] at H
  exact absurd H (by simp)
 rw [if_pos c23] at H
 have c23b0 : decide (0 ≤ x5_3) = true := decide_eq_true c23
 clear c23
 obtain ⟨ji24, hji24⟩ : ∃ j_ : Int, (mn (((rd_T41 l0_10 x5_3).f0).size : Int) 100001) = j_ := ⟨_, rfl⟩
 replace H : (shelfmarkref13_Light.l1 k3 (wrap64 (x3_3 + (ji24))) (wrap64 (x5_3 + 1)) a0_0 a0_1 a0_2 a0_3 a0_4 a0_5 a0_6 a0_7 a0_8 l0_9 l0_10 a0_11 a0_12 a0_13) = some r := by first | (rw [hji24] at H; exact H) | (simp only [hji24] at H ⊢; exact H)
 have hji24_ : (if 100001 < (((rd_T41 l0_10 x5_3).f0).size : Int) then 100001 else (((rd_T41 l0_10 x5_3).f0).size : Int)) = ji24 := hji24
 have H' := Aside0.mk H
 clear H
 have hcz25_0 : wr.cell? ⟨gb132, 0, none⟩ = some (.int .i64 a0_0) := (blk_cell BK132.out 0).trans rfl
 have hcz25_1 : wr.cell? ⟨gb132, 1, none⟩ = some (.int .i64 a0_1) := (blk_cell BK132.out 1).trans rfl
 have hcz25_2 : wr.cell? ⟨gb132, 2, none⟩ = some (.int .i64 a0_2) := (blk_cell BK132.out 2).trans rfl
 have hcz25_3 : wr.cell? ⟨gb132, 3, none⟩ = some (.int .i64 a0_3) := (blk_cell BK132.out 3).trans rfl
 have hcz25_4 : wr.cell? ⟨gb132, 4, none⟩ = some (.int .i64 a0_4) := (blk_cell BK132.out 4).trans rfl
 have hcz25_5 : wr.cell? ⟨gb132, 5, none⟩ = some (.int .i64 a0_5) := (blk_cell BK132.out 5).trans rfl
 have hcz25_6 : wr.cell? ⟨gb132, 6, none⟩ = some (.int .i64 a0_6) := (blk_cell BK132.out 6).trans rfl
 have hcz25_7 : wr.cell? ⟨gb132, 7, none⟩ = some (.string a0_7) := (blk_cell BK132.out 7).trans rfl
 have hcz25_8 : wr.cell? ⟨gb132, 8, none⟩ = some (.string a0_8) := (blk_cell BK132.out 8).trans rfl
 have hcz25_9 : wr.cell? ⟨gb132, 9, none⟩ = some (.slice A0_9 l0_9.length c0_9) := (blk_cell BK132.out 9).trans rfl
 have hcz25_10 : wr.cell? ⟨gb132, 10, none⟩ = some (.slice A0_10 l0_10.length c0_10) := (blk_cell BK132.out 10).trans rfl
 have hcz25_11 : wr.cell? ⟨gb132, 11, none⟩ = some (.int .i64 a0_11) := (blk_cell BK132.out 11).trans rfl
 have hcz25_12 : wr.cell? ⟨gb132, 12, none⟩ = some (.bool a0_12) := (blk_cell BK132.out 12).trans rfl
 have hcz25_13 : wr.cell? ⟨gb132, 13, none⟩ = some (.string a0_13) := (blk_cell BK132.out 13).trans rfl
 have hfz25_0 := blk_frozen BK132.out 0
 have hfz25_1 := blk_frozen BK132.out 1
 have hfz25_2 := blk_frozen BK132.out 2
 have hfz25_3 := blk_frozen BK132.out 3
 have hfz25_4 := blk_frozen BK132.out 4
 have hfz25_5 := blk_frozen BK132.out 5
 have hfz25_6 := blk_frozen BK132.out 6
 have hfz25_7 := blk_frozen BK132.out 7
 have hfz25_8 := blk_frozen BK132.out 8
 have hfz25_9 := blk_frozen BK132.out 9
 have hfz25_10 := blk_frozen BK132.out 10
 have hfz25_11 := blk_frozen BK132.out 11
 have hfz25_12 := blk_frozen BK132.out 12
 have hfz25_13 := blk_frozen BK132.out 13
 have p135 : 0 ≤ (x5_3 : Int) := of_decide_eq_true (by first | (with_reducible assumption) | assumption)
 have q135 : x5_3 < (l0_10.length : Int) := of_decide_eq_true (by first | (with_reducible assumption) | assumption)
 obtain ⟨ad135, e135, hx135_0, hx135_1, hx135_2⟩ := at_T41 HR0_10.out x5_3 p135 q135
 cases e135
 replace hx135_0 := (HB.out.cell (World.block_lt_of_cell? w _ hx135_0)).trans hx135_0
 replace hx135_1 := (HB.out.cell (World.block_lt_of_cell? w _ hx135_1)).trans hx135_1
 replace hx135_2 := (HB.out.cell (World.block_lt_of_cell? w _ hx135_2)).trans hx135_2
 replace p135 := eq_true p135
 replace q135 := eq_true q135
 go_wp2
 repeat (go_quiet (fail); try go_wp2)
 go_roundg k3
 case measure => have := HJ1.out; have := HJ10.out; have := HK3.out; omega
 case rel => exact ⟨(wrap64 (x3_3 + (ji24))), (wrap64 (x5_3 + 1)), (by first | rfl | (simp; done) | (simp only [← hji24] <;> (first | rfl | simp)) | (simp [*]; done)), (by first | rfl | (simp; done) | (simp [*]; done) | (simp [ne_nil_bytes]; done) | (simp [eq_nil_bytes]; done)), H', ⟨by have := HJ1.out; have := HJ10.out; have := HK3.out; omega⟩, ⟨by exact bL BK132.out⟩, ⟨hL HB.out⟩⟩

end Go.Proofs.Ythghacojbhjeaaa.PKp
