-- Written by a program of this session for this claim (mp.py, over the kit's print); Lean checks it.
import Derived.Test.YtmgjccpolkhhhaaPAllx0
import Derived.Test.YtmgjccpolkhhhaaPAllx2
import Derived.Test.YtmgjccpolkhhhaaPAllx3
import Derived.Test.YtmgjccpolkhhhaaPAllx6
import Derived.Test.YtmgjccpolkhhhaaPAllx7
import Derived.Test.YtmgjccpolkhhhaaPAllx9
namespace Go.Proofs.Ytmgjccpolkhhhaa.PAll
open Go.RowKit Go.Proofs.YtmgjccpolkhhhaaW.PrintWords Go.Proofs.YtmgjccpolkhhhaaW.PrintLast Go.Proofs.YtmgjccpolkhhhaaW.PrintMore Go.Proofs.Ytmgjccpolkhhhaa.Fv Go.Proofs.Ytmgjccpolkhhhaa.Hl
attribute [local go_sem] max2_int min2_int max_two min_two max_three min_three max_four min_four str_gtr str_leq str_geq cell_set2   -- for this text's walks alone
set_option linter.unusedVariables false
set_option linter.unusedSimpArgs false

attribute [local go_sem high] eqA46
/-! ### shelfmarklaw12_awake: function 9 -/
def shelfmarklaw12_awake.f (k : Nat)  : Option (Bool) := (atlas_Start.f 2).bind fun bt188 => ((atlas_Split.f k bt188.1 bt188.2.1 (⟨#[109]⟩ : ByteArray)).bind fun bt194 => ((atlas_Move.f k bt194.1 bt194.2.1 (⟨#[122]⟩ : ByteArray) 3).bind fun bt200 => ((atlas_Pack.f k bt188.1 bt188.2.1).bind fun bt206 => (if bt188.2.2 = 0 then (if bt194.2.2 = 0 then (if bt200.2.2 = 0 then (if bt206.2 = 0 then (if bt206.1.toList = ([1, 1, 0, 2] : List UInt8) then (if bt200.1 = 3 then (if (bt200.2.1.length : Int) = 2 then (if 1 < (bt200.2.1.length : Int) then (some ((((rd_T46 bt200.2.1 1).f0).toList) == ([109] : List UInt8) && (((rd_T46 bt200.2.1 1).f1) == 3))) else (none)) else (some false)) else (some false)) else (some false)) else (some false)) else (some false)) else (some false)) else (some false)))))
theorem shelfmarklaw12_awake.mono : ∀ k, LeO (shelfmarklaw12_awake.f k ) (shelfmarklaw12_awake.f (k + 1) ) := by
 intro  k
 unfold shelfmarklaw12_awake.f
 repeat' first
   | (with_reducible exact atlas_Move.mono _ _ _ _ _)
   | (with_reducible exact atlas_Pack.mono _ _ _)
   | (with_reducible exact atlas_Split.mono _ _ _ _)
   | (with_reducible exact LeO.refl _)
   | (with_reducible exact LeO.none _)
   | (with_reducible refine LeO.ite ?_ ?_)
   | (with_reducible refine LeO.bind ?_ (fun _ => ?_))
   | exact atlas_Move.mono _ _ _ _ _
   | exact atlas_Pack.mono _ _ _
   | exact atlas_Split.mono _ _ _ _
   | exact LeO.none _
   | refine LeO.ite ?_ ?_
   | refine LeO.bind ?_ (fun _ => ?_)
set_option maxHeartbeats 8000000 in
set_option maxRecDepth 100000 in
theorem shelfmarklaw12_awake.calls (k : Nat)  (r : Bool) (w : World) (h : shelfmarklaw12_awake.f k  = some r) (hlaw : r = true := by rfl) :
  Calls Try.prog 9 #[] w fun e w' => e = .returned (.bool r) ∧ Below w.heap.size w w' := by
 have HLAW := Aside0.mk hlaw
 clear hlaw
 have hu24 := Try.underlying24
 have hu46 := Try.underlying46
 have HB := Aside0.mk (Below.refl w.heap.size w)
 have H : ((atlas_Start.f 2).bind fun bt188 => ((atlas_Split.f k bt188.1 bt188.2.1 (⟨#[109]⟩ : ByteArray)).bind fun bt194 => ((atlas_Move.f k bt194.1 bt194.2.1 (⟨#[122]⟩ : ByteArray) 3).bind fun bt200 => ((atlas_Pack.f k bt188.1 bt188.2.1).bind fun bt206 => (if bt188.2.2 = 0 then (if bt194.2.2 = 0 then (if bt200.2.2 = 0 then (if bt206.2 = 0 then (if bt206.1.toList = ([1, 1, 0, 2] : List UInt8) then (if bt200.1 = 3 then (if (bt200.2.1.length : Int) = 2 then (if 1 < (bt200.2.1.length : Int) then (some ((((rd_T46 bt200.2.1 1).f0).toList) == ([109] : List UInt8) && (((rd_T46 bt200.2.1 1).f1) == 3))) else (none)) else (some false)) else (some false)) else (some false)) else (some false)) else (some false)) else (some false)) else (some false)))))) = some r := h
 clear h
 replace H := Option.bind_eq_some_iff.mp H
 obtain ⟨⟨t188, t189, t192⟩, A10, H⟩ := H
 replace H : ((atlas_Split.f k t188 t189 (⟨#[109]⟩ : ByteArray)).bind fun bt194 => ((atlas_Move.f k bt194.1 bt194.2.1 (⟨#[122]⟩ : ByteArray) 3).bind fun bt200 => ((atlas_Pack.f k t188 t189).bind fun bt206 => (if t192 = 0 then (if bt194.2.2 = 0 then (if bt200.2.2 = 0 then (if bt206.2 = 0 then (if bt206.1.toList = ([1, 1, 0, 2] : List UInt8) then (if bt200.1 = 3 then (if (bt200.2.1.length : Int) = 2 then (if 1 < (bt200.2.1.length : Int) then (some ((((rd_T46 bt200.2.1 1).f0).toList) == ([109] : List UInt8) && (((rd_T46 bt200.2.1 1).f1) == 3))) else (none)) else (some false)) else (some false)) else (some false)) else (some false)) else (some false)) else (some false)) else (some false))))) = some r := H
 have A1 := Aside0.mk A10
 clear A10
 replace H := Option.bind_eq_some_iff.mp H
 obtain ⟨⟨t194, t195, t198⟩, A20, H⟩ := H
 replace H : ((atlas_Move.f k t194 t195 (⟨#[122]⟩ : ByteArray) 3).bind fun bt200 => ((atlas_Pack.f k t188 t189).bind fun bt206 => (if t192 = 0 then (if t198 = 0 then (if bt200.2.2 = 0 then (if bt206.2 = 0 then (if bt206.1.toList = ([1, 1, 0, 2] : List UInt8) then (if bt200.1 = 3 then (if (bt200.2.1.length : Int) = 2 then (if 1 < (bt200.2.1.length : Int) then (some ((((rd_T46 bt200.2.1 1).f0).toList) == ([109] : List UInt8) && (((rd_T46 bt200.2.1 1).f1) == 3))) else (none)) else (some false)) else (some false)) else (some false)) else (some false)) else (some false)) else (some false)) else (some false)))) = some r := H
 have A2 := Aside0.mk A20
 clear A20
 replace H := Option.bind_eq_some_iff.mp H
 obtain ⟨⟨t200, t201, t204⟩, A30, H⟩ := H
 replace H : ((atlas_Pack.f k t188 t189).bind fun bt206 => (if t192 = 0 then (if t198 = 0 then (if t204 = 0 then (if bt206.2 = 0 then (if bt206.1.toList = ([1, 1, 0, 2] : List UInt8) then (if t200 = 3 then (if (t201.length : Int) = 2 then (if 1 < (t201.length : Int) then (some ((((rd_T46 t201 1).f0).toList) == ([109] : List UInt8) && (((rd_T46 t201 1).f1) == 3))) else (none)) else (some false)) else (some false)) else (some false)) else (some false)) else (some false)) else (some false)) else (some false))) = some r := H
 have A3 := Aside0.mk A30
 clear A30
 replace H := Option.bind_eq_some_iff.mp H
 obtain ⟨⟨t206, t207⟩, A40, H⟩ := H
 replace H : (if t192 = 0 then (if t198 = 0 then (if t204 = 0 then (if t207 = 0 then (if t206.toList = ([1, 1, 0, 2] : List UInt8) then (if t200 = 3 then (if (t201.length : Int) = 2 then (if 1 < (t201.length : Int) then (some ((((rd_T46 t201 1).f0).toList) == ([109] : List UInt8) && (((rd_T46 t201 1).f1) == 3))) else (none)) else (some false)) else (some false)) else (some false)) else (some false)) else (some false)) else (some false)) else (some false)) = some r := H
 have A4 := Aside0.mk A40
 clear A40
 by_cases c5 : t192 = 0
 rotate_left
 ·rw [if_neg c5] at H
  have c5b0 : (t192 == 0) = false := beq_eq_false_iff_ne.mpr c5
  have c5b1 : (t192 != 0) = true := bne_iff_ne.mpr c5
  obtain rfl := Option.some.inj H
  exact absurd HLAW.out (by decide)
 rw [if_pos c5] at H
 have c5b0 : (t192 == 0) = true := beq_iff_eq.mpr c5
 have c5b1 : (t192 != 0) = false := bne_eq_false_iff_eq.mpr c5
 clear c5
 by_cases c6 : t198 = 0
 rotate_left
 ·rw [if_neg c6] at H
  have c6b0 : (t198 == 0) = false := beq_eq_false_iff_ne.mpr c6
  have c6b1 : (t198 != 0) = true := bne_iff_ne.mpr c6
  obtain rfl := Option.some.inj H
  exact absurd HLAW.out (by decide)
 rw [if_pos c6] at H
 have c6b0 : (t198 == 0) = true := beq_iff_eq.mpr c6
 have c6b1 : (t198 != 0) = false := bne_eq_false_iff_eq.mpr c6
 clear c6
 by_cases c7 : t204 = 0
 rotate_left
 ·rw [if_neg c7] at H
  have c7b0 : (t204 == 0) = false := beq_eq_false_iff_ne.mpr c7
  have c7b1 : (t204 != 0) = true := bne_iff_ne.mpr c7
  obtain rfl := Option.some.inj H
  exact absurd HLAW.out (by decide)
 rw [if_pos c7] at H
 have c7b0 : (t204 == 0) = true := beq_iff_eq.mpr c7
 have c7b1 : (t204 != 0) = false := bne_eq_false_iff_eq.mpr c7
 clear c7
 by_cases c8 : t207 = 0
 rotate_left
 ·rw [if_neg c8] at H
  have c8b0 : (t207 == 0) = false := beq_eq_false_iff_ne.mpr c8
  have c8b1 : (t207 != 0) = true := bne_iff_ne.mpr c8
  obtain rfl := Option.some.inj H
  exact absurd HLAW.out (by decide)
 rw [if_pos c8] at H
 have c8b0 : (t207 == 0) = true := beq_iff_eq.mpr c8
 have c8b1 : (t207 != 0) = false := bne_eq_false_iff_eq.mpr c8
 clear c8
 by_cases c9 : t206.toList = ([1, 1, 0, 2] : List UInt8)
 rotate_left
 ·rw [if_neg c9] at H
  have c9b0 : (t206.toList == ([1, 1, 0, 2] : List UInt8)) = false := beq_eq_false_iff_ne.mpr c9
  have c9b1 : (t206.toList != ([1, 1, 0, 2] : List UInt8)) = true := bne_iff_ne.mpr c9
  obtain rfl := Option.some.inj H
  exact absurd HLAW.out (by decide)
 rw [if_pos c9] at H
 have c9b0 : (t206.toList == ([1, 1, 0, 2] : List UInt8)) = true := beq_iff_eq.mpr c9
 have c9b1 : (t206.toList != ([1, 1, 0, 2] : List UInt8)) = false := bne_eq_false_iff_eq.mpr c9
 clear c9
 by_cases c10 : t200 = 3
 rotate_left
 ·rw [if_neg c10] at H
  have c10b0 : (t200 == 3) = false := beq_eq_false_iff_ne.mpr c10
  have c10b1 : (t200 != 3) = true := bne_iff_ne.mpr c10
  obtain rfl := Option.some.inj H
  exact absurd HLAW.out (by decide)
 rw [if_pos c10] at H
 have c10b0 : (t200 == 3) = true := beq_iff_eq.mpr c10
 have c10b1 : (t200 != 3) = false := bne_eq_false_iff_eq.mpr c10
 clear c10
 by_cases c11 : (t201.length : Int) = 2
 rotate_left
 ·rw [if_neg c11] at H
  have c11b0 : ((t201.length : Int) == 2) = false := beq_eq_false_iff_ne.mpr c11
  have c11b1 : ((t201.length : Int) != 2) = true := bne_iff_ne.mpr c11
  obtain rfl := Option.some.inj H
  exact absurd HLAW.out (by decide)
 rw [if_pos c11] at H
 have c11b0 : ((t201.length : Int) == 2) = true := beq_iff_eq.mpr c11
 have c11b1 : ((t201.length : Int) != 2) = false := bne_eq_false_iff_eq.mpr c11
 clear c11
 by_cases c12 : 1 < (t201.length : Int)
 rotate_left
 ·rw [if_neg c12] at H
  exact absurd H (by simp)
 rw [if_pos c12] at H
 have c12b0 : decide (1 < (t201.length : Int)) = true := decide_eq_true c12
 have c12b1 : decide (1 < t201.length) = true := decide_eq_true (by omega)
 clear c12
 obtain rfl := Option.some.inj H
 simp only [Option.some.injEq, Prod.mk.injEq] at H
 obtain ⟨rfl⟩ := H
 go_enter Try.func9, Try.ntmps9
 go_wp2_with (first | ((with_reducible refine gate_callee (f := 15) rfl ?_); refine goesL_ (some 10) rfl rfl Try.func15 (by kernel_rfl) rfl #[.int .i64 2] rfl (by (try simp only [List.map_toArray, List.map_cons, List.map_nil]); first | done | rfl | (simp only [List.length_drop, List.length_take]; rfl)) ?_; (with_reducible refine (atlas_Start.calls 2 t188 t189 t192 _ A1.out).mono ?_); rintro e w13 ⟨v190, rfl, ho0, hb⟩; refine ⟨_, rfl, ?_⟩; have n0_ := Aside0.mk (Kd.R_lower ho0 (below_size (hL HB.out))); have n1_ := Aside0.mk (below_step (hL HB.out) hb); clear HB; have HO191 := n0_; have HB := n1_; clear n0_ n1_; (try clear hb); (try clear hb2); (try clear hk); (try clear hi); (try clear ho0)) | ((with_reducible refine gate_dst (N := 1) rfl ?_); (try (refine gate_guard (by rfl) ?_; dsimp only)); refine box_event ?hg (N := 1) ?hd (cs := #[.int .i64 0, .slice none 0 0]) (t := 24) ?hr ?_; (case hd => rfl); (case hg => rfl); (case hr => first | (go_simp; done) | (go_simp; rfl)); intro gb193 hg w14 hbox hb; have n0_ := Aside0.mk (Kd.R_below (rL HO191.out) hb); have n1_ := Aside0.mk (below_step (hL HB.out) hb); have n2_ := Aside0.mk (hbox); have n3_ := Above.mk ((by rw [hg]; exact (below_size (hL HB.out)) : w.heap.size ≤ gb193)); have n4_ := Above.mk ((by rw [hg]; exact (below_size (hL HB.out)) : w.heap.size ≤ gb193)); clear HO191; clear HB; have HO191 := n0_; have HB := n1_; have BK193 := n2_; have GW193 := n3_; have GE193 := n4_; clear n0_ n1_ n2_ n3_ n4_; clear hb hbox hg; have hcz15_0 : w14.cell? ⟨gb193, 0, none⟩ = some (.int .i64 0) := (blk_cell BK193.out 0).trans rfl; have hcz15_1 : w14.cell? ⟨gb193, 1, none⟩ = some (.slice none 0 0) := (blk_cell BK193.out 1).trans rfl; have hfz15_0 := blk_frozen BK193.out 0; have hfz15_1 := blk_frozen BK193.out 1; obtain ⟨Ao16, co16, eo16⟩ := Kd.R_slice HO191.out; subst eo16) | ((with_reducible refine gate_callee (f := 22) rfl ?_); refine goesL_ (some 15) rfl rfl Try.func22 (by kernel_rfl) rfl #[.agg #[.int .i64 t188, .slice Ao16 t189.length co16], .string (⟨#[109]⟩ : ByteArray)] rfl (by (try simp only [List.map_toArray, List.map_cons, List.map_nil]); first | done | rfl | (simp only [List.length_drop, List.length_take]; rfl)) ?_; (with_reducible refine (atlas_Split.calls k t188 _ _ t189 (⟨#[109]⟩ : ByteArray) t194 t195 t198 _ ?side1 ?side2 A2.out).mono ?_); (case side1 => refine (Kd.R_reads' (e := 46) (base := w.heap.size) (ok := fun k_ => True) (n := t189.length) (c := co16) ?_).2.2; exact (by (with_reducible repeat (first | apply Kd.R_alloc | apply Kd.R_drewN | apply Kd.R_drew)); exact (Kd.R_mono (Kd.R_far (p := ⟨gb193, 1, none⟩) (Kd.R_far (p := ⟨gb193, 0, none⟩) (Kd.R_types HO191.out BK193.out (by decide)) (fun _ hk => hk.2) (.int .i64 t188)) (fun _ hk => hk.2) (.slice Ao16 t189.length co16)) (fun _ h_ => h_.1)))); (case side2 => exact (Kd.R_reads' HO191.out).2.1); rintro e w17 ⟨v196, rfl, ho0, hb⟩; refine ⟨_, rfl, ?_⟩; have n0_ := Aside0.mk (Kd.R_elder' (by (with_reducible repeat (first | apply Kd.R_alloc | apply Kd.R_drewN | apply Kd.R_drew)); exact (Kd.R_mono (Kd.R_far (p := ⟨gb193, 1, none⟩) (Kd.R_far (p := ⟨gb193, 0, none⟩) (Kd.R_types HO191.out BK193.out (by decide)) (fun _ hk => hk.2) (.int .i64 t188)) (fun _ hk => hk.2) (.slice Ao16 t189.length co16)) (fun _ h_ => h_.1))) (Kd.R_base ho0) hb); have n1_ := Aside0.mk (Kd.R_lower (Kd.R_new' ho0 (Kd.R_lt (by (with_reducible repeat (first | apply Kd.R_alloc | apply Kd.R_drewN | apply Kd.R_drew)); exact (Kd.R_mono (Kd.R_far (p := ⟨gb193, 1, none⟩) (Kd.R_far (p := ⟨gb193, 0, none⟩) (Kd.R_types HO191.out BK193.out (by decide)) (fun _ hk => hk.2) (.int .i64 t188)) (fun _ hk => hk.2) (.slice Ao16 t189.length co16)) (fun _ h_ => h_.1))))) (below_size (hL HB.out))); have n2_ := Aside0.mk (blk_below (g := gb193) (o := .cells #[.int .i64 t188, .slice Ao16 t189.length co16] 24 (0, 0)) (by (with_reducible repeat (first | refine blk_drewN ?_ _ | refine blk_drew ?_ | refine blk_alloc ?_ _)); refine blk_put (cs := #[.int .i64 t188, .slice none 0 0]) ?_ 1 _ rfl; (with_reducible repeat (first | refine blk_drewN ?_ _ | refine blk_drew ?_ | refine blk_alloc ?_ _)); refine blk_put (cs := #[.int .i64 0, .slice none 0 0]) ?_ 0 _ rfl; exact bL BK193.out) hb); have n3_ := Aside0.mk (below_step (hL HB.out) hb); clear HO191; clear BK193; clear HB; have HO191 := n0_; have HO197 := n1_; have BK193 := n2_; have HB := n3_; clear n0_ n1_ n2_ n3_; (try clear hb); (try clear hb2); (try clear hk); (try clear hi); (try clear ho0)) | ((with_reducible refine gate_dst (N := 3) rfl ?_); (try (refine gate_guard (by rfl) ?_; dsimp only)); refine box_event ?hg (N := 3) ?hd (cs := #[.int .i64 0, .slice none 0 0]) (t := 24) ?hr ?_; (case hd => rfl); (case hg => rfl); (case hr => first | (go_simp; done) | (go_simp; rfl)); intro gb199 hg w18 hbox hb; have n0_ := Aside0.mk (Kd.R_below (rL HO191.out) hb); have n1_ := Aside0.mk (Kd.R_below (rL HO197.out) hb); have n2_ := Aside0.mk (blk_below BK193.out hb); have n3_ := Aside0.mk (below_step (hL HB.out) hb); have n4_ := Aside0.mk (hbox); have n5_ := Above.mk ((by rw [hg]; exact (below_size (hL HB.out)) : w.heap.size ≤ gb199)); have n6_ := Above.mk ((by rw [hg]; exact (below_size (hL HB.out)) : w.heap.size ≤ gb199)); have n7_ := Aside0.mk ((by rw [hg]; exact Nat.ne_of_lt (blk_lt (g := gb193) (o := .cells #[.int .i64 t188, .slice Ao16 t189.length co16] 24 (0, 0)) (bL BK193.out)) : gb193 ≠ gb199)); have n8_ := Aside0.mk ((by rw [hg]; exact Nat.ne_of_gt (blk_lt (g := gb193) (o := .cells #[.int .i64 t188, .slice Ao16 t189.length co16] 24 (0, 0)) (bL BK193.out)) : gb199 ≠ gb193)); clear HO191; clear HO197; clear BK193; clear HB; have HO191 := n0_; have HO197 := n1_; have BK193 := n2_; have HB := n3_; have BK199 := n4_; have GW199 := n5_; have GE199 := n6_; have NB193_199 := n7_; have NB199_193 := n8_; clear n0_ n1_ n2_ n3_ n4_ n5_ n6_ n7_ n8_; clear hb hbox hg; have hnb19 := NB199_193.out; have hnc19 := NB193_199.out; have hcz20_0 : w18.cell? ⟨gb199, 0, none⟩ = some (.int .i64 0) := (blk_cell BK199.out 0).trans rfl; have hcz20_1 : w18.cell? ⟨gb199, 1, none⟩ = some (.slice none 0 0) := (blk_cell BK199.out 1).trans rfl; have hfz20_0 := blk_frozen BK199.out 0; have hfz20_1 := blk_frozen BK199.out 1; obtain ⟨Ao21, co21, eo21⟩ := Kd.R_slice HO197.out; subst eo21) | ((with_reducible refine gate_callee (f := 24) rfl ?_); refine goesL_ (some 20) rfl rfl Try.func24 (by kernel_rfl) rfl #[.agg #[.int .i64 t194, .slice Ao21 t195.length co21], .string (⟨#[122]⟩ : ByteArray), .int .i64 3] rfl (by (try simp only [List.map_toArray, List.map_cons, List.map_nil]); first | done | rfl | (simp only [List.length_drop, List.length_take]; rfl)) ?_; (with_reducible refine (atlas_Move.calls k t194 _ _ t195 (⟨#[122]⟩ : ByteArray) 3 t200 t201 t204 _ ?side1 ?side2 A3.out).mono ?_); (case side1 => refine (Kd.R_reads' (e := 46) (base := w.heap.size) (ok := fun k_ => (True ∧ some k_ ≠ (.slice Ao16 t189.length co16 : Value).ownBlock)) (n := t195.length) (c := co21) ?_).2.2; exact (by (with_reducible repeat (first | apply Kd.R_alloc | apply Kd.R_drewN | apply Kd.R_drew)); exact (Kd.R_mono (Kd.R_far (p := ⟨gb199, 1, none⟩) (Kd.R_far (p := ⟨gb199, 0, none⟩) (Kd.R_types HO197.out BK199.out (by decide)) (fun _ hk => hk.2) (.int .i64 t194)) (fun _ hk => hk.2) (.slice Ao21 t195.length co21)) (fun _ h_ => h_.1)))); (case side2 => exact (Kd.R_reads' HO197.out).2.1); rintro e w22 ⟨v202, rfl, ho0, hb⟩; refine ⟨_, rfl, ?_⟩; have n0_ := Aside0.mk (Kd.R_elder' (by (with_reducible repeat (first | apply Kd.R_alloc | apply Kd.R_drewN | apply Kd.R_drew)); exact (Kd.R_mono (Kd.R_far (p := ⟨gb199, 1, none⟩) (Kd.R_far (p := ⟨gb199, 0, none⟩) (Kd.R_types HO191.out BK199.out (by decide)) (fun _ hk => hk.2) (.int .i64 t194)) (fun _ hk => hk.2) (.slice Ao21 t195.length co21)) (fun _ h_ => h_.1))) (Kd.R_base ho0) hb); have n1_ := Aside0.mk (Kd.R_elder' (by (with_reducible repeat (first | apply Kd.R_alloc | apply Kd.R_drewN | apply Kd.R_drew)); exact (Kd.R_mono (Kd.R_far (p := ⟨gb199, 1, none⟩) (Kd.R_far (p := ⟨gb199, 0, none⟩) (Kd.R_types HO197.out BK199.out (by decide)) (fun _ hk => hk.2) (.int .i64 t194)) (fun _ hk => hk.2) (.slice Ao21 t195.length co21)) (fun _ h_ => h_.1))) (Kd.R_base ho0) hb); have n2_ := Aside0.mk (Kd.R_lower (Kd.R_new' (Kd.R_new' ho0 (Kd.R_lt (by (with_reducible repeat (first | apply Kd.R_alloc | apply Kd.R_drewN | apply Kd.R_drew)); exact (Kd.R_mono (Kd.R_far (p := ⟨gb199, 1, none⟩) (Kd.R_far (p := ⟨gb199, 0, none⟩) (Kd.R_types HO191.out BK199.out (by decide)) (fun _ hk => hk.2) (.int .i64 t194)) (fun _ hk => hk.2) (.slice Ao21 t195.length co21)) (fun _ h_ => h_.1))))) (Kd.R_lt (by (with_reducible repeat (first | apply Kd.R_alloc | apply Kd.R_drewN | apply Kd.R_drew)); exact (Kd.R_mono (Kd.R_far (p := ⟨gb199, 1, none⟩) (Kd.R_far (p := ⟨gb199, 0, none⟩) (Kd.R_types HO197.out BK199.out (by decide)) (fun _ hk => hk.2) (.int .i64 t194)) (fun _ hk => hk.2) (.slice Ao21 t195.length co21)) (fun _ h_ => h_.1))))) (below_size (hL HB.out))); have n3_ := Aside0.mk (blk_below (g := gb193) (o := .cells #[.int .i64 t188, .slice Ao16 t189.length co16] 24 (0, 0)) (by (with_reducible repeat (first | refine blk_drewN ?_ _ | refine blk_drew ?_ | refine blk_alloc ?_ _)); refine blk_far ?_ NB193_199.out _; (with_reducible repeat (first | refine blk_drewN ?_ _ | refine blk_drew ?_ | refine blk_alloc ?_ _)); refine blk_far ?_ NB193_199.out _; exact bL BK193.out) hb); have n4_ := Aside0.mk (blk_below (g := gb199) (o := .cells #[.int .i64 t194, .slice Ao21 t195.length co21] 24 (0, 0)) (by (with_reducible repeat (first | refine blk_drewN ?_ _ | refine blk_drew ?_ | refine blk_alloc ?_ _)); refine blk_put (cs := #[.int .i64 t194, .slice none 0 0]) ?_ 1 _ rfl; (with_reducible repeat (first | refine blk_drewN ?_ _ | refine blk_drew ?_ | refine blk_alloc ?_ _)); refine blk_put (cs := #[.int .i64 0, .slice none 0 0]) ?_ 0 _ rfl; exact bL BK199.out) hb); have n5_ := Aside0.mk (below_step (hL HB.out) hb); clear HO191; clear HO197; clear BK193; clear BK199; clear HB; have HO191 := n0_; have HO197 := n1_; have HO203 := n2_; have BK193 := n3_; have BK199 := n4_; have HB := n5_; clear n0_ n1_ n2_ n3_ n4_ n5_; (try clear hb); (try clear hb2); (try clear hk); (try clear hi); (try clear ho0)) | ((with_reducible refine gate_dst (N := 5) rfl ?_); (try (refine gate_guard (by rfl) ?_; dsimp only)); refine box_event ?hg (N := 5) ?hd (cs := #[.int .i64 0, .slice none 0 0]) (t := 24) ?hr ?_; (case hd => rfl); (case hg => rfl); (case hr => first | (go_simp; done) | (go_simp; rfl)); intro gb205 hg w23 hbox hb; have n0_ := Aside0.mk (Kd.R_below (rL HO191.out) hb); have n1_ := Aside0.mk (Kd.R_below (rL HO197.out) hb); have n2_ := Aside0.mk (Kd.R_below (rL HO203.out) hb); have n3_ := Aside0.mk (blk_below BK193.out hb); have n4_ := Aside0.mk (blk_below BK199.out hb); have n5_ := Aside0.mk (below_step (hL HB.out) hb); have n6_ := Aside0.mk (hbox); have n7_ := Above.mk ((by rw [hg]; exact (below_size (hL HB.out)) : w.heap.size ≤ gb205)); have n8_ := Above.mk ((by rw [hg]; exact (below_size (hL HB.out)) : w.heap.size ≤ gb205)); have n9_ := Aside0.mk ((by rw [hg]; exact Nat.ne_of_lt (blk_lt (g := gb193) (o := .cells #[.int .i64 t188, .slice Ao16 t189.length co16] 24 (0, 0)) (bL BK193.out)) : gb193 ≠ gb205)); have n10_ := Aside0.mk ((by rw [hg]; exact Nat.ne_of_gt (blk_lt (g := gb193) (o := .cells #[.int .i64 t188, .slice Ao16 t189.length co16] 24 (0, 0)) (bL BK193.out)) : gb205 ≠ gb193)); have n11_ := Aside0.mk ((by rw [hg]; exact Nat.ne_of_lt (blk_lt (g := gb199) (o := .cells #[.int .i64 t194, .slice Ao21 t195.length co21] 24 (0, 0)) (bL BK199.out)) : gb199 ≠ gb205)); have n12_ := Aside0.mk ((by rw [hg]; exact Nat.ne_of_gt (blk_lt (g := gb199) (o := .cells #[.int .i64 t194, .slice Ao21 t195.length co21] 24 (0, 0)) (bL BK199.out)) : gb205 ≠ gb199)); clear HO191; clear HO197; clear HO203; clear BK193; clear BK199; clear HB; have HO191 := n0_; have HO197 := n1_; have HO203 := n2_; have BK193 := n3_; have BK199 := n4_; have HB := n5_; have BK205 := n6_; have GW205 := n7_; have GE205 := n8_; have NB193_205 := n9_; have NB205_193 := n10_; have NB199_205 := n11_; have NB205_199 := n12_; clear n0_ n1_ n2_ n3_ n4_ n5_ n6_ n7_ n8_ n9_ n10_ n11_ n12_; clear hb hbox hg; have hnb24 := NB205_193.out; have hnc24 := NB193_205.out; have hnb25 := NB205_199.out; have hnc25 := NB199_205.out; have hcz26_0 : w23.cell? ⟨gb205, 0, none⟩ = some (.int .i64 0) := (blk_cell BK205.out 0).trans rfl; have hcz26_1 : w23.cell? ⟨gb205, 1, none⟩ = some (.slice none 0 0) := (blk_cell BK205.out 1).trans rfl; have hfz26_0 := blk_frozen BK205.out 0; have hfz26_1 := blk_frozen BK205.out 1; obtain ⟨Ao27, co27, eo27⟩ := Kd.R_slice HO203.out; subst eo27; have hcz28_0 : w23.cell? ⟨gb193, 0, none⟩ = some (.int .i64 t188) := (blk_cell BK193.out 0).trans rfl; have hcz28_1 : w23.cell? ⟨gb193, 1, none⟩ = some (.slice Ao16 t189.length co16) := (blk_cell BK193.out 1).trans rfl; have hfz28_0 := blk_frozen BK193.out 0; have hfz28_1 := blk_frozen BK193.out 1) | ((with_reducible refine gate_callee (f := 25) rfl ?_); refine goesL_ (some 25) rfl rfl Try.func25 (by kernel_rfl) rfl #[.agg #[.int .i64 t188, .slice Ao16 t189.length co16]] rfl (by (try simp only [List.map_toArray, List.map_cons, List.map_nil]); first | done | rfl | (simp only [List.length_drop, List.length_take]; rfl)) ?_; (with_reducible refine (atlas_Pack.calls k t188 _ _ t189 t206 t207 _ ?side1 ?side2 A4.out).mono ?_); (case side1 => refine (Kd.R_reads' (e := 46) (base := w.heap.size) (ok := fun k_ => ((True ∧ some k_ ≠ (.slice Ao21 t195.length co21 : Value).ownBlock) ∧ some k_ ≠ (.slice Ao27 t201.length co27 : Value).ownBlock)) (n := t189.length) (c := co16) ?_).2.2; exact (by (with_reducible repeat (first | apply Kd.R_alloc | apply Kd.R_drewN | apply Kd.R_drew)); exact (Kd.R_mono (Kd.R_far (p := ⟨gb205, 1, none⟩) (Kd.R_far (p := ⟨gb205, 0, none⟩) (Kd.R_types HO191.out BK205.out (by decide)) (fun _ hk => hk.2) (.int .i64 t200)) (fun _ hk => hk.2) (.slice Ao27 t201.length co27)) (fun _ h_ => h_.1)))); (case side2 => exact (Kd.R_reads' HO191.out).2.1); rintro e w29 ⟨rfl, hb⟩; refine ⟨_, rfl, ?_⟩; have n0_ := Aside0.mk (Kd.R_below (by (with_reducible repeat (first | apply Kd.R_alloc | apply Kd.R_drewN | apply Kd.R_drew)); exact (Kd.R_mono (Kd.R_far (p := ⟨gb205, 1, none⟩) (Kd.R_far (p := ⟨gb205, 0, none⟩) (Kd.R_types HO191.out BK205.out (by decide)) (fun _ hk => hk.2) (.int .i64 t200)) (fun _ hk => hk.2) (.slice Ao27 t201.length co27)) (fun _ h_ => h_.1))) hb); have n1_ := Aside0.mk (Kd.R_below (by (with_reducible repeat (first | apply Kd.R_alloc | apply Kd.R_drewN | apply Kd.R_drew)); exact (Kd.R_mono (Kd.R_far (p := ⟨gb205, 1, none⟩) (Kd.R_far (p := ⟨gb205, 0, none⟩) (Kd.R_types HO197.out BK205.out (by decide)) (fun _ hk => hk.2) (.int .i64 t200)) (fun _ hk => hk.2) (.slice Ao27 t201.length co27)) (fun _ h_ => h_.1))) hb); have n2_ := Aside0.mk (Kd.R_below (by (with_reducible repeat (first | apply Kd.R_alloc | apply Kd.R_drewN | apply Kd.R_drew)); exact (Kd.R_mono (Kd.R_far (p := ⟨gb205, 1, none⟩) (Kd.R_far (p := ⟨gb205, 0, none⟩) (Kd.R_types HO203.out BK205.out (by decide)) (fun _ hk => hk.2) (.int .i64 t200)) (fun _ hk => hk.2) (.slice Ao27 t201.length co27)) (fun _ h_ => h_.1))) hb); have n3_ := Aside0.mk (blk_below (g := gb193) (o := .cells #[.int .i64 t188, .slice Ao16 t189.length co16] 24 (0, 0)) (by (with_reducible repeat (first | refine blk_drewN ?_ _ | refine blk_drew ?_ | refine blk_alloc ?_ _)); refine blk_far ?_ NB193_205.out _; (with_reducible repeat (first | refine blk_drewN ?_ _ | refine blk_drew ?_ | refine blk_alloc ?_ _)); refine blk_far ?_ NB193_205.out _; exact bL BK193.out) hb); have n4_ := Aside0.mk (blk_below (g := gb199) (o := .cells #[.int .i64 t194, .slice Ao21 t195.length co21] 24 (0, 0)) (by (with_reducible repeat (first | refine blk_drewN ?_ _ | refine blk_drew ?_ | refine blk_alloc ?_ _)); refine blk_far ?_ NB199_205.out _; (with_reducible repeat (first | refine blk_drewN ?_ _ | refine blk_drew ?_ | refine blk_alloc ?_ _)); refine blk_far ?_ NB199_205.out _; exact bL BK199.out) hb); have n5_ := Aside0.mk (blk_below (g := gb205) (o := .cells #[.int .i64 t200, .slice Ao27 t201.length co27] 24 (0, 0)) (by (with_reducible repeat (first | refine blk_drewN ?_ _ | refine blk_drew ?_ | refine blk_alloc ?_ _)); refine blk_put (cs := #[.int .i64 t200, .slice none 0 0]) ?_ 1 _ rfl; (with_reducible repeat (first | refine blk_drewN ?_ _ | refine blk_drew ?_ | refine blk_alloc ?_ _)); refine blk_put (cs := #[.int .i64 0, .slice none 0 0]) ?_ 0 _ rfl; exact bL BK205.out) hb); have n6_ := Aside0.mk (below_step (hL HB.out) hb); clear HO191; clear HO197; clear HO203; clear BK193; clear BK199; clear BK205; clear HB; have HO191 := n0_; have HO197 := n1_; have HO203 := n2_; have BK193 := n3_; have BK199 := n4_; have BK205 := n5_; have HB := n6_; clear n0_ n1_ n2_ n3_ n4_ n5_ n6_; (try clear hb); (try clear hb2); (try clear hk); (try clear hi); have hcz30_0 : w29.cell? ⟨gb205, 0, none⟩ = some (.int .i64 t200) := (blk_cell BK205.out 0).trans rfl; have hcz30_1 : w29.cell? ⟨gb205, 1, none⟩ = some (.slice Ao27 t201.length co27) := (blk_cell BK205.out 1).trans rfl; have hfz30_0 := blk_frozen BK205.out 0; have hfz30_1 := blk_frozen BK205.out 1; have p208 : 0 ≤ (1 : Int) := (by omega); have q208 : 1 < (t201.length : Int) := of_decide_eq_true (by first | (with_reducible assumption) | assumption); obtain ⟨ad208, e208, hx208_0, hx208_1⟩ := at_T46 (Kd.R_reads' HO203.out).2.2 1 p208 q208; cases e208; (try simp only [show (1 : Int).toNat = 1 from rfl, Nat.reduceMul, Nat.reduceEqDiff, Go.Addr.add, ↓reduceIte] at hx208_0); (try simp only [show (1 : Int).toNat = 1 from rfl, Nat.reduceMul, Nat.reduceEqDiff, Go.Addr.add, ↓reduceIte] at hx208_1); have qi208 : (1 < t201.length) = True := eq_true (by omega); (try rw [show ((1 : Int)).toNat = 1 from rfl] at hx208_0); (try rw [show 1 * 2 = 2 from rfl] at hx208_0); (try rw [show ((1 : Int)).toNat = 1 from rfl] at hx208_1); (try rw [show 1 * 2 = 2 from rfl] at hx208_1); replace p208 := eq_true p208; replace q208 := eq_true q208))
 go_ret
 exact ⟨by first | rfl | (simp [errW_none, errW_some] <;> rfl) | (simp [*, errW_none, errW_some] <;> rfl), hL HB.out⟩

/-! ### shelfmarkref12_Light: function 10 -/
mutual
def shelfmarkref12_Light.l0 : Nat → Int → Int → List (S46) → Option (Bool)
 | 0, _, _, _ => none
 | k + 1, x3, x210000, x210001 => if x3 < (x210001.length : Int) then (shelfmarkref12_Light.j1 k x3 (decide (x3 < 50)) x210000 x210001) else (shelfmarkref12_Light.j1 k x3 false x210000 x210001)
def shelfmarkref12_Light.j1 : Nat → Int → Bool → Int → List (S46) → Option (Bool)
 | 0, _, _, _, _ => none
 | k + 1, x3, x12, x210000, x210001 => if x12 = true then (if 0 ≤ x3 then (if x3 < (x210001.length : Int) then (if (((rd_T46 x210001 x3).f0).size : Int) > 300 then (some false) else (shelfmarkref12_Light.l0 k (wrap64 (x3 + 1)) x210000 x210001)) else (none)) else (none)) else (some (decide ((x210001.length : Int) < 50)))
end
def shelfmarkref12_Light.f (k : Nat) (a0_0 : Int) (l0_1 : List (S46)) : Option (Bool) := shelfmarkref12_Light.l0 k 0 a0_0 l0_1
theorem shelfmarkref12_Light.mono_l : ∀ k, (∀ y0 y1 y2, LeO (shelfmarkref12_Light.l0 k y0 y1 y2) (shelfmarkref12_Light.l0 (k + 1) y0 y1 y2)) ∧ (∀ y0 y1 y2 y3, LeO (shelfmarkref12_Light.j1 k y0 y1 y2 y3) (shelfmarkref12_Light.j1 (k + 1) y0 y1 y2 y3))
 | 0 => ⟨fun _ _ _ r h => by simp [shelfmarkref12_Light.l0] at h, fun _ _ _ _ r h => by simp [shelfmarkref12_Light.j1] at h⟩
 | k + 1 => by
  obtain ⟨ih0, ih1⟩ := shelfmarkref12_Light.mono_l k
  refine ⟨?_, ?_⟩
  ·intro y0 y1 y2
   unfold shelfmarkref12_Light.l0
   repeat' first
   | (with_reducible exact ih0 _ _ _)
   | (with_reducible exact ih1 _ _ _ _)
   | (with_reducible exact LeO.refl _)
   | (with_reducible exact LeO.none _)
   | (with_reducible refine LeO.ite ?_ ?_)
   | (with_reducible refine LeO.bind ?_ (fun _ => ?_))
   | exact ih0 _ _ _
   | exact ih1 _ _ _ _
   | exact LeO.none _
   | refine LeO.ite ?_ ?_
   | refine LeO.bind ?_ (fun _ => ?_)
  ·intro y0 y1 y2 y3
   unfold shelfmarkref12_Light.j1
   repeat' first
   | (with_reducible exact ih0 _ _ _)
   | (with_reducible exact ih1 _ _ _ _)
   | (with_reducible exact LeO.refl _)
   | (with_reducible exact LeO.none _)
   | (with_reducible refine LeO.ite ?_ ?_)
   | (with_reducible refine LeO.bind ?_ (fun _ => ?_))
   | exact ih0 _ _ _
   | exact ih1 _ _ _ _
   | exact LeO.none _
   | refine LeO.ite ?_ ?_
   | refine LeO.bind ?_ (fun _ => ?_)
theorem shelfmarkref12_Light.mono : ∀ a0 a1 k, LeO (shelfmarkref12_Light.f k a0 a1) (shelfmarkref12_Light.f (k + 1) a0 a1) := by
 intro a0 a1 k
 obtain ⟨ih0, ih1⟩ := shelfmarkref12_Light.mono_l k
 unfold shelfmarkref12_Light.f
 repeat' first
   | (with_reducible exact ih0 _ _ _)
   | (with_reducible exact ih1 _ _ _ _)
   | (with_reducible exact LeO.refl _)
   | (with_reducible exact LeO.none _)
   | (with_reducible refine LeO.ite ?_ ?_)
   | (with_reducible refine LeO.bind ?_ (fun _ => ?_))
   | exact ih0 _ _ _
   | exact ih1 _ _ _ _
   | exact LeO.none _
   | refine LeO.ite ?_ ?_
   | refine LeO.bind ?_ (fun _ => ?_)
set_option maxHeartbeats 8000000 in
set_option maxRecDepth 100000 in
theorem shelfmarkref12_Light.calls (k : Nat) (a0_0 : Int) (A0_1 : Option Addr) (c0_1 : Nat) (l0_1 : List (S46)) (r : Bool) (w : World) (hr0_1 : Kd.C k46 w A0_1 l0_1.length l0_1) (hc0_1 : l0_1.length ≤ c0_1) (h : shelfmarkref12_Light.f k a0_0 l0_1 = some r) :
  Calls Try.prog 10 #[.agg #[.int .i64 a0_0, .slice A0_1 l0_1.length c0_1]] w fun e w' => e = .returned (.bool r) ∧ Below w.heap.size w w' := by
 have hu24 := Try.underlying24
 have HR0_1 := Aside0.mk hr0_1
 have HC0_1 := Aside0.mk hc0_1
 clear hr0_1 hc0_1
 have HB := Aside0.mk (Below.refl w.heap.size w)
 have H : (shelfmarkref12_Light.l0 k 0 a0_0 l0_1) = some r := h
 clear h
 have H' := Aside0.mk H
 clear H
 go_enter Try.func10, Try.ntmps10
 go_wp2_with (first | ((with_reducible refine gate_dst (N := 1) rfl ?_); refine box_event ?hg (N := 1) ?hd (cs := #[.int .i64 a0_0, .slice A0_1 l0_1.length c0_1]) (t := 24) ?hr ?_; (case hd => rfl); (case hg => rfl); (case hr => first | (go_simp; done) | (go_simp; rfl)); intro gb209 hg w2 hbox hb; have n0_ := Aside0.mk (below_step (hL HB.out) hb); have n1_ := Aside0.mk (hbox); have n2_ := Above.mk ((by rw [hg]; exact (below_size (hL HB.out)) : w.heap.size ≤ gb209)); have n3_ := Above.mk ((by rw [hg]; exact (below_size (hL HB.out)) : w.heap.size ≤ gb209)); clear HB; have HB := n0_; have BK209 := n1_; have GW209 := n2_; have GE209 := n3_; clear n0_ n1_ n2_ n3_; clear hb hbox hg))
 go_loopg [3] k (fun kq v3 w' => ∃ (x3_1 : Int), v3 = .int .i64 x3_1 ∧ Aside0 (shelfmarkref12_Light.l0 kq x3_1 a0_0 l0_1 = some r) ∧ Aside0 (kq ≤ k) ∧ Aside0 (w'.heap[gb209]? = some (.cells #[.int .i64 a0_0, (.slice A0_1 l0_1.length c0_1)] 24 (0, 0))) ∧ Aside0 (Below w.heap.size w w'))
 case atStart => exact ⟨(0), (by first | rfl | (simp; done) | (simp [*]; done) | (simp [ne_nil_bytes]; done) | (simp [eq_nil_bytes]; done)), H', ⟨Nat.le_refl _⟩, ⟨by exact bL BK209.out⟩, ⟨hL HB.out⟩⟩
 clear H'
 try clear c1
 try clear p2
 obtain ⟨x3_1, rfl, HA, HK1, BK209, HB⟩ := hrel
 rcases gk with _ | k1
 ·exact absurd HA.out (by simp [shelfmarkref12_Light.l0])
 have H := HA.out
 clear HA
 simp only [shelfmarkref12_Light.l0] at H
 have HC3 := Aside0.mk H
 clear H
 go_upto_region 2 with (fail)
 go_cut [12] (fun v12 wc => ∃ (kq : Nat) (x12_2 : Bool), v12 = .bool x12_2 ∧ Aside0 (shelfmarkref12_Light.j1 kq x3_1 x12_2 a0_0 l0_1 = some r) ∧ Aside0 (kq ≤ k1) ∧ Aside0 (wc.heap[gb209]? = some (.cells #[.int .i64 a0_0, (.slice A0_1 l0_1.length c0_1)] 24 (0, 0))) ∧ Aside0 (Below w.heap.size w wc))
 case first =>
  have H := HC3.out
  clear HC3
  by_cases c4 : x3_1 < (l0_1.length : Int)
  rotate_left
  ·rw [if_neg c4] at H
   have c4b0 : decide (x3_1 < (l0_1.length : Int)) = false := decide_eq_false c4
   clear c4
   (first | rw [c4b0] | (simp only [i64_w, i32_w]; rw [c4b0]) | skip)
   have H' := Aside0.mk H
   clear H
   have hcz6_0 : wr.cell? ⟨gb209, 0, none⟩ = some (.int .i64 a0_0) := (blk_cell BK209.out 0).trans rfl
   have hcz6_1 : wr.cell? ⟨gb209, 1, none⟩ = some (.slice A0_1 l0_1.length c0_1) := (blk_cell BK209.out 1).trans rfl
   have hfz6_0 := blk_frozen BK209.out 0
   have hfz6_1 := blk_frozen BK209.out 1
   go_wp2
   go_meet
   case rel => exact ⟨_, (false), (by first | rfl | (simp; done) | (simp [*]; done) | (simp [ne_nil_bytes]; done) | (simp [eq_nil_bytes]; done)), H', ⟨by have := HK1.out; first | omega | exact Nat.le_refl _⟩, ⟨by exact bL BK209.out⟩, ⟨hL HB.out⟩⟩
  rw [if_pos c4] at H
  have c4b0 : decide (x3_1 < (l0_1.length : Int)) = true := decide_eq_true c4
  clear c4
  (first | rw [c4b0] | (simp only [i64_w, i32_w]; rw [c4b0]) | skip)
  have H' := Aside0.mk H
  clear H
  have hcz5_0 : wr.cell? ⟨gb209, 0, none⟩ = some (.int .i64 a0_0) := (blk_cell BK209.out 0).trans rfl
  have hcz5_1 : wr.cell? ⟨gb209, 1, none⟩ = some (.slice A0_1 l0_1.length c0_1) := (blk_cell BK209.out 1).trans rfl
  have hfz5_0 := blk_frozen BK209.out 0
  have hfz5_1 := blk_frozen BK209.out 1
  go_wp2
  go_meet
  case rel => exact ⟨_, (decide (x3_1 < 50)), (by first | rfl | (simp; done) | (simp [*]; done) | (simp [ne_nil_bytes]; done) | (simp [eq_nil_bytes]; done)), H', ⟨by have := HK1.out; first | omega | exact Nat.le_refl _⟩, ⟨by exact bL BK209.out⟩, ⟨hL HB.out⟩⟩
 clear HC3
 try clear c1
 try clear p2
 try clear c4
 try clear c4b0
 try clear c4b0z
 try clear hcz5_0
 try clear hcz5_1
 try clear hcz6_0
 try clear hcz6_1
 try clear hfz5_0
 try clear hfz5_1
 try clear hfz6_0
 try clear hfz6_1
 try clear p2
 obtain ⟨kq, x12_2, rfl, HA, HJ2, BK209, HB⟩ := hcut
 rcases kq with _ | kj2
 ·exact absurd HA.out (by simp [shelfmarkref12_Light.j1])
 have H := HA.out
 clear HA
 simp only [shelfmarkref12_Light.j1] at H
 by_cases c7 : x12_2 = true
 rotate_left
 ·replace c7 := Bool.eq_false_iff.mpr c7
  subst c7
  have H1 : (some (decide ((l0_1.length : Int) < 50))) = some r := by rw [if_neg (show ¬ (false = true) by decide)] at H; exact H
  clear H
  have H := H1
  clear H1
  obtain rfl := Option.some.inj H
  simp only [Option.some.injEq, Prod.mk.injEq] at H
  obtain ⟨rfl⟩ := H
  have hcz13_0 : wc.cell? ⟨gb209, 0, none⟩ = some (.int .i64 a0_0) := (blk_cell BK209.out 0).trans rfl
  have hcz13_1 : wc.cell? ⟨gb209, 1, none⟩ = some (.slice A0_1 l0_1.length c0_1) := (blk_cell BK209.out 1).trans rfl
  have hfz13_0 := blk_frozen BK209.out 0
  have hfz13_1 := blk_frozen BK209.out 1
  go_wp2
  go_ret
  exact ⟨by first | rfl | (simp [errW_none, errW_some] <;> rfl) | (simp [*, errW_none, errW_some] <;> rfl), hL HB.out⟩
 subst c7
 have H1 : (if 0 ≤ x3_1 then (if x3_1 < (l0_1.length : Int) then (if (((rd_T46 l0_1 x3_1).f0).size : Int) > 300 then (some false) else (shelfmarkref12_Light.l0 kj2 (wrap64 (x3_1 + 1)) a0_0 l0_1)) else (none)) else (none)) = some r := by rw [if_pos rfl] at H; exact H
 clear H
 have H := H1
 clear H1
 by_cases c8 : 0 ≤ x3_1
 rotate_left
 ·rw [if_neg c8] at H
  exact absurd H (by simp)
 rw [if_pos c8] at H
 have c8b0 : decide (0 ≤ x3_1) = true := decide_eq_true c8
 clear c8
 by_cases c9 : x3_1 < (l0_1.length : Int)
 rotate_left
 ·rw [if_neg c9] at H
  exact absurd H (by simp)
 rw [if_pos c9] at H
 have c9b0 : decide (x3_1 < (l0_1.length : Int)) = true := decide_eq_true c9
 clear c9
 by_cases c10 : (((rd_T46 l0_1 x3_1).f0).size : Int) > 300
 ·rw [if_pos c10] at H
  have c10b0 : decide (300 < (((rd_T46 l0_1 x3_1).f0).size : Int)) = true := decide_eq_true c10
  have c10b1 : decide (300 < ((rd_T46 l0_1 x3_1).f0).size) = true := decide_eq_true (by omega)
  clear c10
  obtain rfl := Option.some.inj H
  simp only [Option.some.injEq, Prod.mk.injEq] at H
  obtain ⟨rfl⟩ := H
  have hcz11_0 : wc.cell? ⟨gb209, 0, none⟩ = some (.int .i64 a0_0) := (blk_cell BK209.out 0).trans rfl
  have hcz11_1 : wc.cell? ⟨gb209, 1, none⟩ = some (.slice A0_1 l0_1.length c0_1) := (blk_cell BK209.out 1).trans rfl
  have hfz11_0 := blk_frozen BK209.out 0
  have hfz11_1 := blk_frozen BK209.out 1
  have p210 : 0 ≤ (x3_1 : Int) := of_decide_eq_true (by first | (with_reducible assumption) | assumption)
  have q210 : x3_1 < (l0_1.length : Int) := of_decide_eq_true (by first | (with_reducible assumption) | assumption)
  obtain ⟨ad210, e210, hx210_0, hx210_1⟩ := at_T46 HR0_1.out x3_1 p210 q210
  cases e210
  replace hx210_0 := (HB.out.cell (World.block_lt_of_cell? w _ hx210_0)).trans hx210_0
  replace hx210_1 := (HB.out.cell (World.block_lt_of_cell? w _ hx210_1)).trans hx210_1
  replace p210 := eq_true p210
  replace q210 := eq_true q210
  go_wp2
  go_ret
  exact ⟨by first | rfl | (simp [errW_none, errW_some] <;> rfl) | (simp [*, errW_none, errW_some] <;> rfl), hL HB.out⟩
 rw [if_neg c10] at H
 have c10b0 : decide (300 < (((rd_T46 l0_1 x3_1).f0).size : Int)) = false := decide_eq_false c10
 have c10b1 : decide (300 < ((rd_T46 l0_1 x3_1).f0).size) = false := decide_eq_false (by omega)
 clear c10
 have H' := Aside0.mk H
 clear H
 have hcz12_0 : wc.cell? ⟨gb209, 0, none⟩ = some (.int .i64 a0_0) := (blk_cell BK209.out 0).trans rfl
 have hcz12_1 : wc.cell? ⟨gb209, 1, none⟩ = some (.slice A0_1 l0_1.length c0_1) := (blk_cell BK209.out 1).trans rfl
 have hfz12_0 := blk_frozen BK209.out 0
 have hfz12_1 := blk_frozen BK209.out 1
 have p210 : 0 ≤ (x3_1 : Int) := of_decide_eq_true (by first | (with_reducible assumption) | assumption)
 have q210 : x3_1 < (l0_1.length : Int) := of_decide_eq_true (by first | (with_reducible assumption) | assumption)
 obtain ⟨ad210, e210, hx210_0, hx210_1⟩ := at_T46 HR0_1.out x3_1 p210 q210
 cases e210
 replace hx210_0 := (HB.out.cell (World.block_lt_of_cell? w _ hx210_0)).trans hx210_0
 replace hx210_1 := (HB.out.cell (World.block_lt_of_cell? w _ hx210_1)).trans hx210_1
 replace p210 := eq_true p210
 replace q210 := eq_true q210
 go_wp2
 go_roundg kj2
 case measure => have := HK1.out; have := HJ2.out; omega
 case rel => exact ⟨(wrap64 (x3_1 + 1)), (by first | rfl | (simp; done) | (simp [*]; done) | (simp [ne_nil_bytes]; done) | (simp [eq_nil_bytes]; done)), H', ⟨by have := HK1.out; have := HJ2.out; omega⟩, ⟨by exact bL BK209.out⟩, ⟨hL HB.out⟩⟩

end Go.Proofs.Ytmgjccpolkhhhaa.PAll
