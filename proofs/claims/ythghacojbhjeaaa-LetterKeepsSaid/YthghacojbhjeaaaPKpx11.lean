-- Written by a program of this session for this claim (mp.py, over the kit's print); Lean checks it.
import Derived.Test.YthghacojbhjeaaaPKpx0
import Derived.Test.YthghacojbhjeaaaPKpx9
import Derived.Test.YthghacojbhjeaaaPKpx10
namespace Go.Proofs.Ythghacojbhjeaaa.PKp
open Go.RowKit Go.Proofs.YthghacojbhjeaaaW.PrintWords Go.Proofs.YthghacojbhjeaaaW.PrintLast Go.Proofs.YthghacojbhjeaaaW.PrintMore Go.Proofs.Ythghacojbhjeaaa.Fv Go.Proofs.Ythghacojbhjeaaa.Hl
attribute [local go_sem] max2_int min2_int max_two min_two max_three min_three max_four min_four str_gtr str_leq str_geq cell_set2   -- for this text's walks alone
set_option linter.unusedVariables false
set_option linter.unusedSimpArgs false

/-! ### shelfmarklaw13_awake: function 7 -/
def shelfmarklaw13_awake.f (k : Nat)  : Option (Bool) := (letter_Pack.f k 1 0 2 0 0 0 0 (⟨#[97]⟩ : ByteArray) (⟨#[]⟩ : ByteArray) ([] : List (S39)) ([] : List (S41)) 0 true (⟨#[]⟩ : ByteArray)).bind fun bt136 => ((letter_Unpack.f k bt136.1).bind fun bt138 => (if bt136.2 = 0 then (if bt138.2.2.2.2.2.2.2.2.2.2.2.2.2.2 = 0 then (if bt136.1.toList = ([1, 0, 2, 0, 0, 0, 0, 0, 1, 1, 97, 0, 0, 0, 0] : List UInt8) then (if bt138.2.2.1 = 2 then (if bt138.2.2.2.2.2.2.2.1.toList = ([97] : List UInt8) then (some bt138.2.2.2.2.2.2.2.2.2.2.2.2.1) else (some false)) else (some false)) else (some false)) else (some false)) else (some false)))
theorem shelfmarklaw13_awake.mono : ∀ k, LeO (shelfmarklaw13_awake.f k ) (shelfmarklaw13_awake.f (k + 1) ) := by
 intro  k
 unfold shelfmarklaw13_awake.f
 repeat' first
   | (with_reducible exact letter_Pack.mono _ _ _ _ _ _ _ _ _ _ _ _ _ _ _)
   | (with_reducible exact letter_Unpack.mono _ _)
   | (with_reducible exact LeO.refl _)
   | (with_reducible exact LeO.none _)
   | (with_reducible refine LeO.ite ?_ ?_)
   | (with_reducible refine LeO.bind ?_ (fun _ => ?_))
   | exact letter_Pack.mono _ _ _ _ _ _ _ _ _ _ _ _ _ _ _
   | exact letter_Unpack.mono _ _
   | exact LeO.none _
   | refine LeO.ite ?_ ?_
   | refine LeO.bind ?_ (fun _ => ?_)
set_option maxHeartbeats 8000000 in
set_option maxRecDepth 100000 in
theorem shelfmarklaw13_awake.calls (k : Nat)  (r : Bool) (w : World) (h : shelfmarklaw13_awake.f k  = some r) (hlaw : r = true := by rfl) :
  Calls Try.prog 7 #[] w fun e w' => e = .returned (.bool r) ∧ Below w.heap.size w w' := by
 have HLAW := Aside0.mk hlaw
 clear hlaw
 have hu27 := Try.underlying27
 have HB := Aside0.mk (Below.refl w.heap.size w)
 have H : ((letter_Pack.f k 1 0 2 0 0 0 0 (⟨#[97]⟩ : ByteArray) (⟨#[]⟩ : ByteArray) ([] : List (S39)) ([] : List (S41)) 0 true (⟨#[]⟩ : ByteArray)).bind fun bt136 => ((letter_Unpack.f k bt136.1).bind fun bt138 => (if bt136.2 = 0 then (if bt138.2.2.2.2.2.2.2.2.2.2.2.2.2.2 = 0 then (if bt136.1.toList = ([1, 0, 2, 0, 0, 0, 0, 0, 1, 1, 97, 0, 0, 0, 0] : List UInt8) then (if bt138.2.2.1 = 2 then (if bt138.2.2.2.2.2.2.2.1.toList = ([97] : List UInt8) then (some bt138.2.2.2.2.2.2.2.2.2.2.2.2.1) else (some false)) else (some false)) else (some false)) else (some false)) else (some false)))) = some r := h
 clear h
 replace H := Option.bind_eq_some_iff.mp H
 obtain ⟨⟨t136, t137⟩, A10, H⟩ := H
 replace H : ((letter_Unpack.f k t136).bind fun bt138 => (if t137 = 0 then (if bt138.2.2.2.2.2.2.2.2.2.2.2.2.2.2 = 0 then (if t136.toList = ([1, 0, 2, 0, 0, 0, 0, 0, 1, 1, 97, 0, 0, 0, 0] : List UInt8) then (if bt138.2.2.1 = 2 then (if bt138.2.2.2.2.2.2.2.1.toList = ([97] : List UInt8) then (some bt138.2.2.2.2.2.2.2.2.2.2.2.2.1) else (some false)) else (some false)) else (some false)) else (some false)) else (some false))) = some r := H
 have A1 := Aside0.mk A10
 clear A10
 replace H := Option.bind_eq_some_iff.mp H
 obtain ⟨⟨t138, t139, t140, t141, t142, t143, t144, t145, t146, t147, t150, t153, t154, t155, t156⟩, A20, H⟩ := H
 replace H : (if t137 = 0 then (if t156 = 0 then (if t136.toList = ([1, 0, 2, 0, 0, 0, 0, 0, 1, 1, 97, 0, 0, 0, 0] : List UInt8) then (if t140 = 2 then (if t145.toList = ([97] : List UInt8) then (some t154) else (some false)) else (some false)) else (some false)) else (some false)) else (some false)) = some r := H
 have A2 := Aside0.mk A20
 clear A20
 by_cases c3 : t137 = 0
 rotate_left
 ·rw [if_neg c3] at H
  have c3b0 : (t137 == 0) = false := beq_eq_false_iff_ne.mpr c3
  have c3b1 : (t137 != 0) = true := bne_iff_ne.mpr c3
  obtain rfl := Option.some.inj H
  exact absurd HLAW.out (by decide)
 rw [if_pos c3] at H
 have c3b0 : (t137 == 0) = true := beq_iff_eq.mpr c3
 have c3b1 : (t137 != 0) = false := bne_eq_false_iff_eq.mpr c3
 clear c3
 by_cases c4 : t156 = 0
 rotate_left
 ·rw [if_neg c4] at H
  have c4b0 : (t156 == 0) = false := beq_eq_false_iff_ne.mpr c4
  have c4b1 : (t156 != 0) = true := bne_iff_ne.mpr c4
  obtain rfl := Option.some.inj H
  exact absurd HLAW.out (by decide)
 rw [if_pos c4] at H
 have c4b0 : (t156 == 0) = true := beq_iff_eq.mpr c4
 have c4b1 : (t156 != 0) = false := bne_eq_false_iff_eq.mpr c4
 clear c4
 by_cases c5 : t136.toList = ([1, 0, 2, 0, 0, 0, 0, 0, 1, 1, 97, 0, 0, 0, 0] : List UInt8)
 rotate_left
 ·rw [if_neg c5] at H
  have c5b0 : (t136.toList == ([1, 0, 2, 0, 0, 0, 0, 0, 1, 1, 97, 0, 0, 0, 0] : List UInt8)) = false := beq_eq_false_iff_ne.mpr c5
  have c5b1 : (t136.toList != ([1, 0, 2, 0, 0, 0, 0, 0, 1, 1, 97, 0, 0, 0, 0] : List UInt8)) = true := bne_iff_ne.mpr c5
  obtain rfl := Option.some.inj H
  exact absurd HLAW.out (by decide)
 rw [if_pos c5] at H
 have c5b0 : (t136.toList == ([1, 0, 2, 0, 0, 0, 0, 0, 1, 1, 97, 0, 0, 0, 0] : List UInt8)) = true := beq_iff_eq.mpr c5
 have c5b1 : (t136.toList != ([1, 0, 2, 0, 0, 0, 0, 0, 1, 1, 97, 0, 0, 0, 0] : List UInt8)) = false := bne_eq_false_iff_eq.mpr c5
 clear c5
 by_cases c6 : t140 = 2
 rotate_left
 ·rw [if_neg c6] at H
  have c6b0 : (t140 == 2) = false := beq_eq_false_iff_ne.mpr c6
  have c6b1 : (t140 != 2) = true := bne_iff_ne.mpr c6
  obtain rfl := Option.some.inj H
  exact absurd HLAW.out (by decide)
 rw [if_pos c6] at H
 have c6b0 : (t140 == 2) = true := beq_iff_eq.mpr c6
 have c6b1 : (t140 != 2) = false := bne_eq_false_iff_eq.mpr c6
 clear c6
 by_cases c7 : t145.toList = ([97] : List UInt8)
 rotate_left
 ·rw [if_neg c7] at H
  have c7b0 : (t145.toList == ([97] : List UInt8)) = false := beq_eq_false_iff_ne.mpr c7
  have c7b1 : (t145.toList != ([97] : List UInt8)) = true := bne_iff_ne.mpr c7
  obtain rfl := Option.some.inj H
  exact absurd HLAW.out (by decide)
 rw [if_pos c7] at H
 have c7b0 : (t145.toList == ([97] : List UInt8)) = true := beq_iff_eq.mpr c7
 have c7b1 : (t145.toList != ([97] : List UInt8)) = false := bne_eq_false_iff_eq.mpr c7
 clear c7
 obtain rfl := Option.some.inj H
 simp only [Option.some.injEq, Prod.mk.injEq] at H
 obtain ⟨rfl⟩ := H
 go_enter Try.func7, Try.ntmps7
 go_wp2_with (first | ((with_reducible refine gate_callee (f := 11) rfl ?_); refine goesL_ (some 7) rfl rfl Try.func11 (by kernel_rfl) rfl #[.agg #[.int .i64 1, .int .i64 0, .int .i64 2, .int .i64 0, .int .i64 0, .int .i64 0, .int .i64 0, .string (⟨#[97]⟩ : ByteArray), .string (⟨#[]⟩ : ByteArray), .slice none 0 0, .slice none 0 0, .int .i64 0, .bool true, .string (⟨#[]⟩ : ByteArray)]] rfl (by (try simp only [List.map_toArray, List.map_cons, List.map_nil]); first | done | rfl | (simp only [List.length_drop, List.length_take]; rfl)) ?_; (refine (letter_Pack.calls k 1 0 2 0 0 0 0 (⟨#[97]⟩ : ByteArray) (⟨#[]⟩ : ByteArray) _ _ ([] : List (S39)) _ _ ([] : List (S41)) 0 true (⟨#[]⟩ : ByteArray) t136 t137 _ ?side1 ?side2 ?side3 ?side4 A1.out).mono ?_); (case side1 => exact Kd.C_nil _ _); (case side2 => exact Nat.le_refl _); (case side3 => exact Kd.C_nil _ _); (case side4 => exact Nat.le_refl _); rintro e w8 ⟨rfl, hb⟩; refine ⟨_, rfl, ?_⟩; have n0_ := Aside0.mk (below_step (hL HB.out) hb); clear HB; have HB := n0_; clear n0_; (try clear hb); (try clear hb2); (try clear hk); (try clear hi)) | ((with_reducible refine gate_callee (f := 8) rfl ?_); refine goesL_ (some 12) rfl rfl Try.func8 (by kernel_rfl) rfl #[.string t136] rfl (by (try simp only [List.map_toArray, List.map_cons, List.map_nil]); first | done | rfl | (simp only [List.length_drop, List.length_take]; rfl)) ?_; (with_reducible refine (letter_Unpack.calls k t136 t138 t139 t140 t141 t142 t143 t144 t145 t146 t147 t150 t153 t154 t155 t156 _ A2.out).mono ?_); rintro e w9 ⟨v148, v151, rfl, ho0, ho1, hb⟩; refine ⟨_, rfl, ?_⟩; have n0_ := Aside0.mk (Kd.R_lower ho0 (below_size (hL HB.out))); have n1_ := Aside0.mk (Kd.R_lower ho1 (below_size (hL HB.out))); have n2_ := Aside0.mk (below_step (hL HB.out) hb); clear HB; have HO149 := n0_; have HO152 := n1_; have HB := n2_; clear n0_ n1_ n2_; (try clear hb); (try clear hb2); (try clear hk); (try clear hi); (try clear ho0); (try clear ho1)) | ((with_reducible refine gate_dst (N := 3) rfl ?_); refine box_event ?hg (N := 3) ?hd (cs := #[.int .i64 0, .int .i64 0, .int .i64 0, .int .i64 0, .int .i64 0, .int .i64 0, .int .i64 0, .string (⟨#[]⟩ : ByteArray), .string (⟨#[]⟩ : ByteArray), .slice none 0 0, .slice none 0 0, .int .i64 0, .bool false, .string (⟨#[]⟩ : ByteArray)]) (t := 27) ?hr ?_; (case hd => rfl); (case hg => rfl); (case hr => first | (go_simp; done) | (go_simp; rfl)); intro gb157 hg w10 hbox hb; have n0_ := Aside0.mk (Kd.R_below (rL HO149.out) hb); have n1_ := Aside0.mk (Kd.R_below (rL HO152.out) hb); have n2_ := Aside0.mk (below_step (hL HB.out) hb); have n3_ := Aside0.mk (hbox); have n4_ := Above.mk ((by rw [hg]; exact (below_size (hL HB.out)) : w.heap.size ≤ gb157)); have n5_ := Above.mk ((by rw [hg]; exact (below_size (hL HB.out)) : w.heap.size ≤ gb157)); clear HO149; clear HO152; clear HB; have HO149 := n0_; have HO152 := n1_; have HB := n2_; have BK157 := n3_; have GW157 := n4_; have GE157 := n5_; clear n0_ n1_ n2_ n3_ n4_ n5_; clear hb hbox hg; have hcz11_0 : w10.cell? ⟨gb157, 0, none⟩ = some (.int .i64 0) := (blk_cell BK157.out 0).trans rfl; have hcz11_1 : w10.cell? ⟨gb157, 1, none⟩ = some (.int .i64 0) := (blk_cell BK157.out 1).trans rfl; have hcz11_2 : w10.cell? ⟨gb157, 2, none⟩ = some (.int .i64 0) := (blk_cell BK157.out 2).trans rfl; have hcz11_3 : w10.cell? ⟨gb157, 3, none⟩ = some (.int .i64 0) := (blk_cell BK157.out 3).trans rfl; have hcz11_4 : w10.cell? ⟨gb157, 4, none⟩ = some (.int .i64 0) := (blk_cell BK157.out 4).trans rfl; have hcz11_5 : w10.cell? ⟨gb157, 5, none⟩ = some (.int .i64 0) := (blk_cell BK157.out 5).trans rfl; have hcz11_6 : w10.cell? ⟨gb157, 6, none⟩ = some (.int .i64 0) := (blk_cell BK157.out 6).trans rfl; have hcz11_7 : w10.cell? ⟨gb157, 7, none⟩ = some (.string (⟨#[]⟩ : ByteArray)) := (blk_cell BK157.out 7).trans rfl; have hcz11_8 : w10.cell? ⟨gb157, 8, none⟩ = some (.string (⟨#[]⟩ : ByteArray)) := (blk_cell BK157.out 8).trans rfl; have hcz11_9 : w10.cell? ⟨gb157, 9, none⟩ = some (.slice none 0 0) := (blk_cell BK157.out 9).trans rfl; have hcz11_10 : w10.cell? ⟨gb157, 10, none⟩ = some (.slice none 0 0) := (blk_cell BK157.out 10).trans rfl; have hcz11_11 : w10.cell? ⟨gb157, 11, none⟩ = some (.int .i64 0) := (blk_cell BK157.out 11).trans rfl; have hcz11_12 : w10.cell? ⟨gb157, 12, none⟩ = some (.bool false) := (blk_cell BK157.out 12).trans rfl; have hcz11_13 : w10.cell? ⟨gb157, 13, none⟩ = some (.string (⟨#[]⟩ : ByteArray)) := (blk_cell BK157.out 13).trans rfl; have hfz11_0 := blk_frozen BK157.out 0; have hfz11_1 := blk_frozen BK157.out 1; have hfz11_2 := blk_frozen BK157.out 2; have hfz11_3 := blk_frozen BK157.out 3; have hfz11_4 := blk_frozen BK157.out 4; have hfz11_5 := blk_frozen BK157.out 5; have hfz11_6 := blk_frozen BK157.out 6; have hfz11_7 := blk_frozen BK157.out 7; have hfz11_8 := blk_frozen BK157.out 8; have hfz11_9 := blk_frozen BK157.out 9; have hfz11_10 := blk_frozen BK157.out 10; have hfz11_11 := blk_frozen BK157.out 11; have hfz11_12 := blk_frozen BK157.out 12; have hfz11_13 := blk_frozen BK157.out 13; obtain ⟨Ao12, co12, eo12⟩ := Kd.R_slice HO149.out; subst eo12; obtain ⟨Ao13, co13, eo13⟩ := Kd.R_slice HO152.out; subst eo13))
 go_ret
 exact ⟨by first | rfl | (simp [errW_none, errW_some] <;> rfl) | (simp [*, errW_none, errW_some] <;> rfl), hL HB.out⟩

-- NOT PRINTED: function 18 (letter_numbers)

-- NOT PRINTED: function 15 (letter_Same)

-- NOT PRINTED: function 6 (shelfmarklaw13_LetterKeeps)

end Go.Proofs.Ythghacojbhjeaaa.PKp
