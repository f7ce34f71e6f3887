-- Written by a program of this session for this claim (mp.py, over the kit's print); Lean checks it.
import Derived.Test.YtmgjccpolkhhhaaPAllx0
import Derived.Test.YtmgjccpolkhhhaaPAllx5
import Derived.Test.YtmgjccpolkhhhaaPAllx6
import Derived.Test.YtmgjccpolkhhhaaPAllx7
import Derived.Test.YtmgjccpolkhhhaaPAllx10
import Derived.Test.YtmgjccpolkhhhaaPAllx14
import Derived.Test.YtmgjccpolkhhhaaPAllx16
namespace Go.Proofs.Ytmgjccpolkhhhaa.PAll
open Go.RowKit Go.Proofs.YtmgjccpolkhhhaaW.PrintWords Go.Proofs.YtmgjccpolkhhhaaW.PrintLast Go.Proofs.YtmgjccpolkhhhaaW.PrintMore Go.Proofs.Ytmgjccpolkhhhaa.Fv Go.Proofs.Ytmgjccpolkhhhaa.Hl
attribute [local go_sem] max2_int min2_int max_two min_two max_three min_three max_four min_four str_gtr str_leq str_geq cell_set2   -- for this text's walks alone
set_option linter.unusedVariables false
set_option linter.unusedSimpArgs false

/-! ### shelfmarklaw12_AtlasBack: function 5 -/
mutual
def shelfmarklaw12_AtlasBack.j0 : Nat → ByteArray → Int → Bool → Int → List (S46) → Option (Bool)
 | 0, _, _, _, _, _ => none
 | k + 1, x1, x2, x31, x368000, x368001 => if x31 = true then (some true) else ((atlas_Split.f k x368000 x368001 x1).bind fun bt370 => (if bt370.2.2 = 0 then ((atlas_Merge.f k bt370.1 bt370.2.1 x1).bind fun bt376 => (if bt376.2.2 = 0 then ((shelfmarkref12_Same.f k x368000 bt376.2.1 x368000 x368001).bind fun t382 => (if t382 = true then (shelfmarklaw12_AtlasBack.j1 k x1 x2 x368000 x368001) else (some false))) else (some false))) else (shelfmarklaw12_AtlasBack.j1 k x1 x2 x368000 x368001)))
def shelfmarklaw12_AtlasBack.j1 : Nat → ByteArray → Int → Int → List (S46) → Option (Bool)
 | 0, _, _, _, _ => none
 | k + 1, x1, x2, x368000, x368001 => (atlas_Move.f k x368000 x368001 x1 x2).bind fun bt383 => (if bt383.2.2 = 0 then ((atlas_Find.f k x368000 x368001 x1).bind fun bt389 => (if bt389.2 = true then (if bt389.1 < 0 then (shelfmarklaw12_AtlasBack.j2 k x1 bt389.1 true x368000 x368001 bt383.1 bt383.2.1) else (shelfmarklaw12_AtlasBack.j2 k x1 bt389.1 (decide (bt389.1 ≥ (x368001.length : Int))) x368000 x368001 bt383.1 bt383.2.1)) else (shelfmarklaw12_AtlasBack.j2 k x1 bt389.1 true x368000 x368001 bt383.1 bt383.2.1))) else (some true))
def shelfmarklaw12_AtlasBack.j2 : Nat → ByteArray → Int → Bool → Int → List (S46) → Int → List (S46) → Option (Bool)
 | 0, _, _, _, _, _, _, _ => none
 | k + 1, x1, x13, x84, x368000, x368001, x389000, x389001 => if x84 = true then (some false) else (if 0 ≤ x13 then (if x13 < (x368001.length : Int) then ((atlas_Move.f k x389000 x389001 x1 ((rd_T46 x368001 x13).f1)).bind fun bt392 => (if bt392.2.2 = 0 then ((shelfmarkref12_Same.f k x368000 bt392.2.1 x368000 x368001).bind fun t398 => (some t398)) else (some false))) else (none)) else (none))
end
def shelfmarklaw12_AtlasBack.f (k : Nat) (a0_0 : Int) (l0_1 : List (S46)) (a1 : ByteArray) (a2 : Int) : Option (Bool) := (shelfmarklaw12_awake.f k).bind fun t368 => (if t368 = true then ((shelfmarkref12_Light.f k a0_0 l0_1).bind fun t369 => (if t369 = true then (if (a1.size : Int) > 300 then (shelfmarklaw12_AtlasBack.j0 k a1 a2 true a0_0 l0_1) else (shelfmarklaw12_AtlasBack.j0 k a1 a2 (decide (a0_0 > 1000000)) a0_0 l0_1)) else (shelfmarklaw12_AtlasBack.j0 k a1 a2 true a0_0 l0_1))) else (some false))
theorem shelfmarklaw12_AtlasBack.mono_l : ∀ k, (∀ y0 y1 y2 y3 y4, LeO (shelfmarklaw12_AtlasBack.j0 k y0 y1 y2 y3 y4) (shelfmarklaw12_AtlasBack.j0 (k + 1) y0 y1 y2 y3 y4)) ∧ (∀ y0 y1 y2 y3, LeO (shelfmarklaw12_AtlasBack.j1 k y0 y1 y2 y3) (shelfmarklaw12_AtlasBack.j1 (k + 1) y0 y1 y2 y3)) ∧ (∀ y0 y1 y2 y3 y4 y5 y6, LeO (shelfmarklaw12_AtlasBack.j2 k y0 y1 y2 y3 y4 y5 y6) (shelfmarklaw12_AtlasBack.j2 (k + 1) y0 y1 y2 y3 y4 y5 y6))
 | 0 => ⟨fun _ _ _ _ _ r h => by simp [shelfmarklaw12_AtlasBack.j0] at h, fun _ _ _ _ r h => by simp [shelfmarklaw12_AtlasBack.j1] at h, fun _ _ _ _ _ _ _ r h => by simp [shelfmarklaw12_AtlasBack.j2] at h⟩
 | k + 1 => by
  obtain ⟨ih0, ih1, ih2⟩ := shelfmarklaw12_AtlasBack.mono_l k
  refine ⟨?_, ?_, ?_⟩
  ·intro y0 y1 y2 y3 y4
   unfold shelfmarklaw12_AtlasBack.j0
   repeat' first
   | (with_reducible exact ih0 _ _ _ _ _)
   | (with_reducible exact ih1 _ _ _ _)
   | (with_reducible exact ih2 _ _ _ _ _ _ _)
   | (with_reducible exact atlas_Find.mono _ _ _ _)
   | (with_reducible exact atlas_Merge.mono _ _ _ _)
   | (with_reducible exact atlas_Move.mono _ _ _ _ _)
   | (with_reducible exact atlas_Split.mono _ _ _ _)
   | (with_reducible exact shelfmarklaw12_awake.mono _)
   | (with_reducible exact shelfmarkref12_Light.mono _ _ _)
   | (with_reducible exact shelfmarkref12_Same.mono _ _ _ _ _)
   | (with_reducible exact LeO.refl _)
   | (with_reducible exact LeO.none _)
   | (with_reducible refine LeO.ite ?_ ?_)
   | (with_reducible refine LeO.bind ?_ (fun _ => ?_))
   | exact ih0 _ _ _ _ _
   | exact ih1 _ _ _ _
   | exact ih2 _ _ _ _ _ _ _
   | exact atlas_Find.mono _ _ _ _
   | exact atlas_Merge.mono _ _ _ _
   | exact atlas_Move.mono _ _ _ _ _
   | exact atlas_Split.mono _ _ _ _
   | exact shelfmarklaw12_awake.mono _
   | exact shelfmarkref12_Light.mono _ _ _
   | exact shelfmarkref12_Same.mono _ _ _ _ _
   | exact LeO.none _
   | refine LeO.ite ?_ ?_
   | refine LeO.bind ?_ (fun _ => ?_)
  ·intro y0 y1 y2 y3
   unfold shelfmarklaw12_AtlasBack.j1
   repeat' first
   | (with_reducible exact ih0 _ _ _ _ _)
   | (with_reducible exact ih1 _ _ _ _)
   | (with_reducible exact ih2 _ _ _ _ _ _ _)
   | (with_reducible exact atlas_Find.mono _ _ _ _)
   | (with_reducible exact atlas_Merge.mono _ _ _ _)
   | (with_reducible exact atlas_Move.mono _ _ _ _ _)
   | (with_reducible exact atlas_Split.mono _ _ _ _)
   | (with_reducible exact shelfmarklaw12_awake.mono _)
   | (with_reducible exact shelfmarkref12_Light.mono _ _ _)
   | (with_reducible exact shelfmarkref12_Same.mono _ _ _ _ _)
   | (with_reducible exact LeO.refl _)
   | (with_reducible exact LeO.none _)
   | (with_reducible refine LeO.ite ?_ ?_)
   | (with_reducible refine LeO.bind ?_ (fun _ => ?_))
   | exact ih0 _ _ _ _ _
   | exact ih1 _ _ _ _
   | exact ih2 _ _ _ _ _ _ _
   | exact atlas_Find.mono _ _ _ _
   | exact atlas_Merge.mono _ _ _ _
   | exact atlas_Move.mono _ _ _ _ _
   | exact atlas_Split.mono _ _ _ _
   | exact shelfmarklaw12_awake.mono _
   | exact shelfmarkref12_Light.mono _ _ _
   | exact shelfmarkref12_Same.mono _ _ _ _ _
   | exact LeO.none _
   | refine LeO.ite ?_ ?_
   | refine LeO.bind ?_ (fun _ => ?_)
  ·intro y0 y1 y2 y3 y4 y5 y6
   unfold shelfmarklaw12_AtlasBack.j2
   repeat' first
   | (with_reducible exact ih0 _ _ _ _ _)
   | (with_reducible exact ih1 _ _ _ _)
   | (with_reducible exact ih2 _ _ _ _ _ _ _)
   | (with_reducible exact atlas_Find.mono _ _ _ _)
   | (with_reducible exact atlas_Merge.mono _ _ _ _)
   | (with_reducible exact atlas_Move.mono _ _ _ _ _)
   | (with_reducible exact atlas_Split.mono _ _ _ _)
   | (with_reducible exact shelfmarklaw12_awake.mono _)
   | (with_reducible exact shelfmarkref12_Light.mono _ _ _)
   | (with_reducible exact shelfmarkref12_Same.mono _ _ _ _ _)
   | (with_reducible exact LeO.refl _)
   | (with_reducible exact LeO.none _)
   | (with_reducible refine LeO.ite ?_ ?_)
   | (with_reducible refine LeO.bind ?_ (fun _ => ?_))
   | exact ih0 _ _ _ _ _
   | exact ih1 _ _ _ _
   | exact ih2 _ _ _ _ _ _ _
   | exact atlas_Find.mono _ _ _ _
   | exact atlas_Merge.mono _ _ _ _
   | exact atlas_Move.mono _ _ _ _ _
   | exact atlas_Split.mono _ _ _ _
   | exact shelfmarklaw12_awake.mono _
   | exact shelfmarkref12_Light.mono _ _ _
   | exact shelfmarkref12_Same.mono _ _ _ _ _
   | exact LeO.none _
   | refine LeO.ite ?_ ?_
   | refine LeO.bind ?_ (fun _ => ?_)
theorem shelfmarklaw12_AtlasBack.mono : ∀ a0 a1 a2 a3 k, LeO (shelfmarklaw12_AtlasBack.f k a0 a1 a2 a3) (shelfmarklaw12_AtlasBack.f (k + 1) a0 a1 a2 a3) := by
 intro a0 a1 a2 a3 k
 obtain ⟨ih0, ih1, ih2⟩ := shelfmarklaw12_AtlasBack.mono_l k
 unfold shelfmarklaw12_AtlasBack.f
 repeat' first
   | (with_reducible exact ih0 _ _ _ _ _)
   | (with_reducible exact ih1 _ _ _ _)
   | (with_reducible exact ih2 _ _ _ _ _ _ _)
   | (with_reducible exact atlas_Find.mono _ _ _ _)
   | (with_reducible exact atlas_Merge.mono _ _ _ _)
   | (with_reducible exact atlas_Move.mono _ _ _ _ _)
   | (with_reducible exact atlas_Split.mono _ _ _ _)
   | (with_reducible exact shelfmarklaw12_awake.mono _)
   | (with_reducible exact shelfmarkref12_Light.mono _ _ _)
   | (with_reducible exact shelfmarkref12_Same.mono _ _ _ _ _)
   | (with_reducible exact LeO.refl _)
   | (with_reducible exact LeO.none _)
   | (with_reducible refine LeO.ite ?_ ?_)
   | (with_reducible refine LeO.bind ?_ (fun _ => ?_))
   | exact ih0 _ _ _ _ _
   | exact ih1 _ _ _ _
   | exact ih2 _ _ _ _ _ _ _
   | exact atlas_Find.mono _ _ _ _
   | exact atlas_Merge.mono _ _ _ _
   | exact atlas_Move.mono _ _ _ _ _
   | exact atlas_Split.mono _ _ _ _
   | exact shelfmarklaw12_awake.mono _
   | exact shelfmarkref12_Light.mono _ _ _
   | exact shelfmarkref12_Same.mono _ _ _ _ _
   | exact LeO.none _
   | refine LeO.ite ?_ ?_
   | refine LeO.bind ?_ (fun _ => ?_)
def shelfmarklaw12_AtlasBack.T17 : Bool × List (List Nat × List Nat) := (true, [([], []), ([], []), ([], []), ([2], [2]), ([], []), ([3, 4], [3, 4]), ([5], [5]), ([6], [6]), ([0, 1, 7], [0, 1, 7]), ([8], [8]), ([9], [9]), ([9], [9]), ([], []), ([12, 10, 8, 0, 1, 2, 3, 4, 5, 6, 7, 8, 9, 10, 12], [10, 12]), ([11, 13, 0, 1, 2, 3, 4, 5, 6, 7, 8, 9, 10, 11, 12, 13], [11])])
def shelfmarklaw12_AtlasBack.B17 : List Nat := [0, 0, 0, 4, 0, 28, 60, 124, 255, 511, 1023, 1023, 0, 6143, 16383]
theorem shelfmarklaw12_AtlasBack.tab17 : rtab .any (opsOf Try.f5 17) = shelfmarklaw12_AtlasBack.T17 := by kernel_rfl
theorem shelfmarklaw12_AtlasBack.bits17 : waitsOk shelfmarklaw12_AtlasBack.T17.2 shelfmarklaw12_AtlasBack.B17 = true := by kernel_rfl
set_option maxHeartbeats 8000000 in
set_option maxRecDepth 100000 in
theorem shelfmarklaw12_AtlasBack.calls (k : Nat) (a0_0 : Int) (A0_1 : Option Addr) (c0_1 : Nat) (l0_1 : List (S46)) (a1 : ByteArray) (a2 : Int) (r : Bool) (w : World) (hr0_1 : Kd.C k46 w A0_1 l0_1.length l0_1) (hc0_1 : l0_1.length ≤ c0_1) (h : shelfmarklaw12_AtlasBack.f k a0_0 l0_1 a1 a2 = some r) (hlaw : r = true) :
  Calls Try.prog 5 #[.agg #[.int .i64 a0_0, .slice A0_1 l0_1.length c0_1], .string a1, .int .i64 a2] w fun e w' => e = .returned (.bool r) ∧ Below w.heap.size w w' := by
 have HLAW := Aside0.mk hlaw
 clear hlaw
 have hu24 := Try.underlying24
 have HR0_1 := Aside0.mk hr0_1
 have HC0_1 := Aside0.mk hc0_1
 clear hr0_1 hc0_1
 have HB := Aside0.mk (Below.refl w.heap.size w)
 have H : ((shelfmarklaw12_awake.f k).bind fun t368 => (if t368 = true then ((shelfmarkref12_Light.f k a0_0 l0_1).bind fun t369 => (if t369 = true then (if (a1.size : Int) > 300 then (shelfmarklaw12_AtlasBack.j0 k a1 a2 true a0_0 l0_1) else (shelfmarklaw12_AtlasBack.j0 k a1 a2 (decide (a0_0 > 1000000)) a0_0 l0_1)) else (shelfmarklaw12_AtlasBack.j0 k a1 a2 true a0_0 l0_1))) else (some false))) = some r := h
 clear h
 replace H := Option.bind_eq_some_iff.mp H
 obtain ⟨t368, A40, H⟩ := H
 replace H : (if t368 = true then ((shelfmarkref12_Light.f k a0_0 l0_1).bind fun t369 => (if t369 = true then (if (a1.size : Int) > 300 then (shelfmarklaw12_AtlasBack.j0 k a1 a2 true a0_0 l0_1) else (shelfmarklaw12_AtlasBack.j0 k a1 a2 (decide (a0_0 > 1000000)) a0_0 l0_1)) else (shelfmarklaw12_AtlasBack.j0 k a1 a2 true a0_0 l0_1))) else (some false)) = some r := H
 have A4 := Aside0.mk A40
 clear A40
 by_cases c5 : t368 = true
 ·subst c5
  have H1 : ((shelfmarkref12_Light.f k a0_0 l0_1).bind fun t369 => (if t369 = true then (if (a1.size : Int) > 300 then (shelfmarklaw12_AtlasBack.j0 k a1 a2 true a0_0 l0_1) else (shelfmarklaw12_AtlasBack.j0 k a1 a2 (decide (a0_0 > 1000000)) a0_0 l0_1)) else (shelfmarklaw12_AtlasBack.j0 k a1 a2 true a0_0 l0_1))) = some r := by rw [if_pos rfl] at H; exact H
  clear H
  have H := H1
  clear H1
  have HC6 := Aside0.mk H
  clear H
  go_enter Try.func5, Try.ntmps5
  go_upto_region 3 with (first | ((with_reducible refine gate_dst (N := 3) rfl ?_); (try (refine gate_guard (by rfl) ?_; dsimp only)); refine box_event ?hg (N := 3) ?hd (cs := #[.int .i64 a0_0, .slice A0_1 l0_1.length c0_1]) (t := 24) ?hr ?_; (case hd => rfl); (case hg => rfl); (case hr => first | (go_simp; done) | (go_simp; rfl)); intro gb367 hg w7 hbox hb; have n0_ := Aside0.mk (below_step (by repeat (first | (with_reducible first | exact HB.out | apply below_alloc | apply pw_below_drewN | apply below_drew1) | exact HB.out)) hb); have n1_ := Aside0.mk (hbox); have n2_ := Aside0.mk ((by rw [hg]; exact (below_size (by repeat (first | (with_reducible first | exact HB.out | apply below_alloc | apply pw_below_drewN | apply below_drew1) | exact HB.out))) : w.heap.size ≤ gb367)); have n3_ := Aside0.mk ((by rw [hg]; exact (below_size (by repeat (first | (with_reducible first | exact HB.out | apply below_alloc | apply pw_below_drewN | apply below_drew1) | exact HB.out))) : w.heap.size ≤ gb367)); clear HB; have HB := n0_; have BK367 := n1_; have GW367 := n2_; have GE367 := n3_; clear n0_ n1_ n2_ n3_; clear hb hbox hg) | ((with_reducible refine gate_callee (f := 9) rfl ?_); refine goesL_ (some 17) rfl rfl Try.func9 (by kernel_rfl) rfl #[] rfl (by (try simp only [List.map_toArray, List.map_cons, List.map_nil]); first | done | rfl | (simp only [List.length_drop, List.length_take]; rfl)) ?_; (with_reducible refine (shelfmarklaw12_awake.calls k  true _ A4.out).mono ?_); rintro e w8 ⟨rfl, hb⟩; refine ⟨_, rfl, ?_⟩; have n0_ := Aside0.mk (blk_below BK367.out hb); have n1_ := Aside0.mk (below_step (by repeat (first | (with_reducible first | exact HB.out | apply below_alloc | apply pw_below_drewN | apply below_drew1 | refine below_set ?_ GE367.out) | exact HB.out)) hb); clear BK367; clear HB; have BK367 := n0_; have HB := n1_; clear n0_ n1_; (try clear hb); (try clear hb2); (try clear hk); (try clear hi)))
  (try simp only [Act.put, List.setIfInBounds_toArray, List.set_cons_zero, List.set_cons_succ])
  go_cut [31] (fun v31 wc => ∃ (kq : Nat) (x31_5 : Bool), v31 = .bool x31_5 ∧ Aside0 (shelfmarklaw12_AtlasBack.j0 kq a1 a2 x31_5 a0_0 l0_1 = some r) ∧ Aside0 (kq ≤ k) ∧ Aside0 (wc.heap[gb367]? = some (.cells #[.int .i64 a0_0, (.slice A0_1 l0_1.length c0_1)] 24 (0, 0))) ∧ Aside0 (Below w.heap.size w wc))
  case first =>
   have H := HC6.out
   clear HC6
   replace H := Option.bind_eq_some_iff.mp H
   obtain ⟨t369, A90, H⟩ := H
   replace H : (if t369 = true then (if (a1.size : Int) > 300 then (shelfmarklaw12_AtlasBack.j0 k a1 a2 true a0_0 l0_1) else (shelfmarklaw12_AtlasBack.j0 k a1 a2 (decide (a0_0 > 1000000)) a0_0 l0_1)) else (shelfmarklaw12_AtlasBack.j0 k a1 a2 true a0_0 l0_1)) = some r := H
   have A9 := Aside0.mk A90
   clear A90
   by_cases c10 : t369 = true
   ·subst c10
    have H1 : (if (a1.size : Int) > 300 then (shelfmarklaw12_AtlasBack.j0 k a1 a2 true a0_0 l0_1) else (shelfmarklaw12_AtlasBack.j0 k a1 a2 (decide (a0_0 > 1000000)) a0_0 l0_1)) = some r := by rw [if_pos rfl] at H; exact H
    clear H
    have H := H1
    clear H1
    by_cases c11 : (a1.size : Int) > 300
    ·rw [if_pos c11] at H
     have c11b0 : decide (300 < (a1.size : Int)) = true := decide_eq_true c11
     have c11b1 : decide (300 < a1.size) = true := decide_eq_true (by omega)
     clear c11
     (first | rw [c11b0] | (simp only [i64_w, i32_w]; rw [c11b0]) | skip)
     have H' := Aside0.mk H
     clear H
     have hcz12_0 : w8.cell? ⟨gb367, 0, none⟩ = some (.int .i64 a0_0) := (blk_cell BK367.out 0).trans rfl
     have hcz12_1 : w8.cell? ⟨gb367, 1, none⟩ = some (.slice A0_1 l0_1.length c0_1) := (blk_cell BK367.out 1).trans rfl
     have hfz12_0 := blk_frozen BK367.out 0
     have hfz12_1 := blk_frozen BK367.out 1
     go_wp2_with (first | ((with_reducible refine gate_callee (f := 10) rfl ?_); refine goesL_ (some 20) rfl rfl Try.func10 (by kernel_rfl) rfl #[.agg #[.int .i64 a0_0, .slice A0_1 l0_1.length c0_1]] rfl (by (try simp only [List.map_toArray, List.map_cons, List.map_nil]); first | done | rfl | (simp only [List.length_drop, List.length_take]; rfl)) ?_; (with_reducible refine (shelfmarkref12_Light.calls k a0_0 _ _ l0_1 true _ ?side1 ?side2 A9.out).mono ?_); (case side1 => repeat (first | exact (Kd.C_below HR0_1.out HB.out) | (with_reducible refine Kd.C_alloc ?_ _) | (with_reducible refine Kd.C_drewN ?_ _) | (with_reducible refine Kd.C_drew ?_))); (case side2 => exact HC0_1.out); rintro e w13 ⟨rfl, hb⟩; refine ⟨_, rfl, ?_⟩; have n0_ := Aside0.mk (blk_below BK367.out hb); have n1_ := Aside0.mk (below_step (by repeat (first | (with_reducible first | exact HB.out | apply below_alloc | apply pw_below_drewN | apply below_drew1 | refine below_set ?_ GE367.out) | exact HB.out)) hb); clear BK367; clear HB; have BK367 := n0_; have HB := n1_; clear n0_ n1_; (try clear hb); (try clear hb2); (try clear hk); (try clear hi)))
     go_meet
     case rel => exact ⟨_, (true), (by first | rfl | (simp; done) | (simp [*]; done) | (simp [ne_nil_bytes]; done) | (simp [eq_nil_bytes]; done)), H', ⟨by first | omega | exact Nat.le_refl _⟩, ⟨by (with_reducible repeat (first | refine blk_drewN ?_ _ | refine blk_drew ?_ | refine blk_alloc ?_ _)); exact BK367.out⟩, ⟨by repeat (first | (with_reducible first | exact HB.out | apply below_alloc | apply pw_below_drewN | apply below_drew1 | refine below_set ?_ GE367.out) | exact HB.out)⟩⟩
    ·rw [if_neg c11] at H
     have c11b0 : decide (300 < (a1.size : Int)) = false := decide_eq_false c11
     have c11b1 : decide (300 < a1.size) = false := decide_eq_false (by omega)
     clear c11
     (first | rw [c11b0] | (simp only [i64_w, i32_w]; rw [c11b0]) | skip)
     have H' := Aside0.mk H
     clear H
     have hcz14_0 : w8.cell? ⟨gb367, 0, none⟩ = some (.int .i64 a0_0) := (blk_cell BK367.out 0).trans rfl
     have hcz14_1 : w8.cell? ⟨gb367, 1, none⟩ = some (.slice A0_1 l0_1.length c0_1) := (blk_cell BK367.out 1).trans rfl
     have hfz14_0 := blk_frozen BK367.out 0
     have hfz14_1 := blk_frozen BK367.out 1
     go_wp2_with (first | ((with_reducible refine gate_callee (f := 10) rfl ?_); refine goesL_ (some 20) rfl rfl Try.func10 (by kernel_rfl) rfl #[.agg #[.int .i64 a0_0, .slice A0_1 l0_1.length c0_1]] rfl (by (try simp only [List.map_toArray, List.map_cons, List.map_nil]); first | done | rfl | (simp only [List.length_drop, List.length_take]; rfl)) ?_; (with_reducible refine (shelfmarkref12_Light.calls k a0_0 _ _ l0_1 true _ ?side1 ?side2 A9.out).mono ?_); (case side1 => repeat (first | exact (Kd.C_below HR0_1.out HB.out) | (with_reducible refine Kd.C_alloc ?_ _) | (with_reducible refine Kd.C_drewN ?_ _) | (with_reducible refine Kd.C_drew ?_))); (case side2 => exact HC0_1.out); rintro e w15 ⟨rfl, hb⟩; refine ⟨_, rfl, ?_⟩; have n0_ := Aside0.mk (blk_below BK367.out hb); have n1_ := Aside0.mk (below_step (by repeat (first | (with_reducible first | exact HB.out | apply below_alloc | apply pw_below_drewN | apply below_drew1 | refine below_set ?_ GE367.out) | exact HB.out)) hb); clear BK367; clear HB; have BK367 := n0_; have HB := n1_; clear n0_ n1_; (try clear hb); (try clear hb2); (try clear hk); (try clear hi); have hcz16_0 : w15.cell? ⟨gb367, 0, none⟩ = some (.int .i64 a0_0) := (blk_cell BK367.out 0).trans rfl; have hcz16_1 : w15.cell? ⟨gb367, 1, none⟩ = some (.slice A0_1 l0_1.length c0_1) := (blk_cell BK367.out 1).trans rfl; have hfz16_0 := blk_frozen BK367.out 0; have hfz16_1 := blk_frozen BK367.out 1))
     go_meet
     case rel => exact ⟨_, (decide (a0_0 > 1000000)), (by first | rfl | (simp; done) | (simp [*]; done) | (simp [ne_nil_bytes]; done) | (simp [eq_nil_bytes]; done)), H', ⟨by first | omega | exact Nat.le_refl _⟩, ⟨by (with_reducible repeat (first | refine blk_drewN ?_ _ | refine blk_drew ?_ | refine blk_alloc ?_ _)); exact BK367.out⟩, ⟨by repeat (first | (with_reducible first | exact HB.out | apply below_alloc | apply pw_below_drewN | apply below_drew1 | refine below_set ?_ GE367.out) | exact HB.out)⟩⟩
   ·replace c10 := Bool.eq_false_iff.mpr c10
    subst c10
    have H1 : (shelfmarklaw12_AtlasBack.j0 k a1 a2 true a0_0 l0_1) = some r := by rw [if_neg (show ¬ (false = true) by decide)] at H; exact H
    clear H
    have H := H1
    clear H1
    have H' := Aside0.mk H
    clear H
    have hcz17_0 : w8.cell? ⟨gb367, 0, none⟩ = some (.int .i64 a0_0) := (blk_cell BK367.out 0).trans rfl
    have hcz17_1 : w8.cell? ⟨gb367, 1, none⟩ = some (.slice A0_1 l0_1.length c0_1) := (blk_cell BK367.out 1).trans rfl
    have hfz17_0 := blk_frozen BK367.out 0
    have hfz17_1 := blk_frozen BK367.out 1
    go_wp2_with (first | ((with_reducible refine gate_callee (f := 10) rfl ?_); refine goesL_ (some 20) rfl rfl Try.func10 (by kernel_rfl) rfl #[.agg #[.int .i64 a0_0, .slice A0_1 l0_1.length c0_1]] rfl (by (try simp only [List.map_toArray, List.map_cons, List.map_nil]); first | done | rfl | (simp only [List.length_drop, List.length_take]; rfl)) ?_; (with_reducible refine (shelfmarkref12_Light.calls k a0_0 _ _ l0_1 false _ ?side1 ?side2 A9.out).mono ?_); (case side1 => repeat (first | exact (Kd.C_below HR0_1.out HB.out) | (with_reducible refine Kd.C_alloc ?_ _) | (with_reducible refine Kd.C_drewN ?_ _) | (with_reducible refine Kd.C_drew ?_))); (case side2 => exact HC0_1.out); rintro e w18 ⟨rfl, hb⟩; refine ⟨_, rfl, ?_⟩; have n0_ := Aside0.mk (blk_below BK367.out hb); have n1_ := Aside0.mk (below_step (by repeat (first | (with_reducible first | exact HB.out | apply below_alloc | apply pw_below_drewN | apply below_drew1 | refine below_set ?_ GE367.out) | exact HB.out)) hb); clear BK367; clear HB; have BK367 := n0_; have HB := n1_; clear n0_ n1_; (try clear hb); (try clear hb2); (try clear hk); (try clear hi)))
    go_meet
    case rel => exact ⟨_, (true), (by first | rfl | (simp; done) | (simp [*]; done) | (simp [ne_nil_bytes]; done) | (simp [eq_nil_bytes]; done)), H', ⟨by first | omega | exact Nat.le_refl _⟩, ⟨by (with_reducible repeat (first | refine blk_drewN ?_ _ | refine blk_drew ?_ | refine blk_alloc ?_ _)); exact BK367.out⟩, ⟨by repeat (first | (with_reducible first | exact HB.out | apply below_alloc | apply pw_below_drewN | apply below_drew1 | refine below_set ?_ GE367.out) | exact HB.out)⟩⟩
  case rest =>
   clear HC6
   try clear c1
   try clear p2
   try clear c5
   try clear c9
   try clear c10
   try clear c11
   try clear c11b0
   try clear c11b0z
   try clear c11b1
   try clear c11b1z
   try clear hcz12_0
   try clear hcz12_1
   try clear hcz14_0
   try clear hcz14_1
   try clear hcz16_0
   try clear hcz16_1
   try clear hcz17_0
   try clear hcz17_1
   try clear hfz12_0
   try clear hfz12_1
   try clear hfz14_0
   try clear hfz14_1
   try clear hfz16_0
   try clear hfz16_1
   try clear hfz17_0
   try clear hfz17_1
   obtain ⟨kq, x31_5, rfl, HA, HJ5, BK367, HB⟩ := hcut
   cases kq with
   | zero => exact absurd HA.out (by simp [shelfmarklaw12_AtlasBack.j0])
   | succ kj5 =>
    have H := HA.out
    clear HA
    simp only [shelfmarklaw12_AtlasBack.j0] at H
    by_cases c19 : x31_5 = true
    ·subst c19
     have H1 : (some true) = some r := by rw [if_pos rfl] at H; exact H
     clear H
     have H := H1
     clear H1
     obtain rfl := Option.some.inj H
     simp only [Option.some.injEq, Prod.mk.injEq] at H
     obtain ⟨rfl⟩ := H
     go_wp2
     go_ret
     exact ⟨by first | rfl | (simp [errW_none, errW_some] <;> rfl) | (simp [*, errW_none, errW_some] <;> rfl), by repeat (first | (with_reducible first | exact HB.out | apply below_alloc | apply pw_below_drewN | apply below_drew1 | refine below_set ?_ GE367.out) | exact HB.out)⟩
    ·replace c19 := Bool.eq_false_iff.mpr c19
     subst c19
     have H1 : ((atlas_Split.f kj5 a0_0 l0_1 a1).bind fun bt370 => (if bt370.2.2 = 0 then ((atlas_Merge.f kj5 bt370.1 bt370.2.1 a1).bind fun bt376 => (if bt376.2.2 = 0 then ((shelfmarkref12_Same.f kj5 a0_0 bt376.2.1 a0_0 l0_1).bind fun t382 => (if t382 = true then (shelfmarklaw12_AtlasBack.j1 kj5 a1 a2 a0_0 l0_1) else (some false))) else (some false))) else (shelfmarklaw12_AtlasBack.j1 kj5 a1 a2 a0_0 l0_1))) = some r := by rw [if_neg (show ¬ (false = true) by decide)] at H; exact H
     clear H
     have H := H1
     clear H1
     replace H := Option.bind_eq_some_iff.mp H
     obtain ⟨⟨t370, t371, t374⟩, A200, H⟩ := H
     replace H : (if t374 = 0 then ((atlas_Merge.f kj5 t370 t371 a1).bind fun bt376 => (if bt376.2.2 = 0 then ((shelfmarkref12_Same.f kj5 a0_0 bt376.2.1 a0_0 l0_1).bind fun t382 => (if t382 = true then (shelfmarklaw12_AtlasBack.j1 kj5 a1 a2 a0_0 l0_1) else (some false))) else (some false))) else (shelfmarklaw12_AtlasBack.j1 kj5 a1 a2 a0_0 l0_1)) = some r := H
     have A20 := Aside0.mk A200
     clear A200
     have HC21 := Aside0.mk H
     clear H
     have hcz22_0 : wc.cell? ⟨gb367, 0, none⟩ = some (.int .i64 a0_0) := (blk_cell BK367.out 0).trans rfl
     have hcz22_1 : wc.cell? ⟨gb367, 1, none⟩ = some (.slice A0_1 l0_1.length c0_1) := (blk_cell BK367.out 1).trans rfl
     have hfz22_0 := blk_frozen BK367.out 0
     have hfz22_1 := blk_frozen BK367.out 1
     go_upto_if 39 with (first | ((with_reducible refine gate_callee (f := 22) rfl ?_); refine goesL_ (some 35) rfl rfl Try.func22 (by kernel_rfl) rfl #[.agg #[.int .i64 a0_0, .slice A0_1 l0_1.length c0_1], .string a1] rfl (by (try simp only [List.map_toArray, List.map_cons, List.map_nil]); first | done | rfl | (simp only [List.length_drop, List.length_take]; rfl)) ?_; (with_reducible refine (atlas_Split.calls kj5 a0_0 _ _ l0_1 a1 t370 t371 t374 _ ?side1 ?side2 A20.out).mono ?_); (case side1 => repeat (first | exact (Kd.C_below HR0_1.out HB.out) | (with_reducible refine Kd.C_alloc ?_ _) | (with_reducible refine Kd.C_drewN ?_ _) | (with_reducible refine Kd.C_drew ?_))); (case side2 => exact HC0_1.out); rintro e w23 ⟨v372, rfl, ho0, hb⟩; refine ⟨_, rfl, ?_⟩; have n0_ := Aside0.mk (Kd.R_lower ho0 (below_size (by repeat (first | (with_reducible first | exact HB.out | apply below_alloc | apply pw_below_drewN | apply below_drew1 | refine below_set ?_ GE367.out) | exact HB.out)))); have n1_ := Aside0.mk (blk_below BK367.out hb); have n2_ := Aside0.mk (below_step (by repeat (first | (with_reducible first | exact HB.out | apply below_alloc | apply pw_below_drewN | apply below_drew1 | refine below_set ?_ GE367.out) | exact HB.out)) hb); clear BK367; clear HB; have HO373 := n0_; have BK367 := n1_; have HB := n2_; clear n0_ n1_ n2_; (try clear hb); (try clear hb2); (try clear hk); (try clear hi); (try clear ho0)) | ((with_reducible refine gate_dst (N := 7) rfl ?_); (try (refine gate_guard (by rfl) ?_; dsimp only)); refine box_event ?hg (N := 7) ?hd (cs := #[.int .i64 0, .slice none 0 0]) (t := 24) ?hr ?_; (case hd => rfl); (case hg => rfl); (case hr => first | (go_simp; done) | (go_simp; rfl)); intro gb375 hg w24 hbox hb; have n0_ := Aside0.mk (Kd.R_below (by (with_reducible repeat (first | apply Kd.R_alloc | apply Kd.R_drewN | apply Kd.R_drew)); exact HO373.out) hb); have n1_ := Aside0.mk (blk_below BK367.out hb); have n2_ := Aside0.mk (below_step (by repeat (first | (with_reducible first | exact HB.out | apply below_alloc | apply pw_below_drewN | apply below_drew1 | refine below_set ?_ GE367.out) | exact HB.out)) hb); have n3_ := Aside0.mk (hbox); have n4_ := Aside0.mk ((by rw [hg]; exact (below_size (by repeat (first | (with_reducible first | exact HB.out | apply below_alloc | apply pw_below_drewN | apply below_drew1 | refine below_set ?_ GE367.out) | exact HB.out))) : w.heap.size ≤ gb375)); have n5_ := Aside0.mk ((by rw [hg]; exact (below_size (by repeat (first | (with_reducible first | exact HB.out | apply below_alloc | apply pw_below_drewN | apply below_drew1 | refine below_set ?_ GE367.out) | exact HB.out))) : w.heap.size ≤ gb375)); have n6_ := Aside0.mk ((by rw [hg]; exact Nat.ne_of_lt (blk_lt (g := gb367) (o := .cells #[.int .i64 a0_0, .slice A0_1 l0_1.length c0_1] 24 (0, 0)) (by (with_reducible repeat (first | refine blk_drewN ?_ _ | refine blk_drew ?_ | refine blk_alloc ?_ _)); exact BK367.out)) : gb367 ≠ gb375)); have n7_ := Aside0.mk ((by rw [hg]; exact Nat.ne_of_gt (blk_lt (g := gb367) (o := .cells #[.int .i64 a0_0, .slice A0_1 l0_1.length c0_1] 24 (0, 0)) (by (with_reducible repeat (first | refine blk_drewN ?_ _ | refine blk_drew ?_ | refine blk_alloc ?_ _)); exact BK367.out)) : gb375 ≠ gb367)); clear HO373; clear BK367; clear HB; have HO373 := n0_; have BK367 := n1_; have HB := n2_; have BK375 := n3_; have GW375 := n4_; have GE375 := n5_; have NB367_375 := n6_; have NB375_367 := n7_; clear n0_ n1_ n2_ n3_ n4_ n5_ n6_ n7_; clear hb hbox hg; have hnb25 := NB375_367.out; have hnc25 := NB367_375.out; have hcz26_0 : w24.cell? ⟨gb375, 0, none⟩ = some (.int .i64 0) := (blk_cell BK375.out 0).trans rfl; have hcz26_1 : w24.cell? ⟨gb375, 1, none⟩ = some (.slice none 0 0) := (blk_cell BK375.out 1).trans rfl; have hfz26_0 := blk_frozen BK375.out 0; have hfz26_1 := blk_frozen BK375.out 1; obtain ⟨Ao27, co27, eo27⟩ := Kd.R_slice HO373.out; subst eo27))
     (try simp only [Act.put, List.setIfInBounds_toArray, List.set_cons_zero, List.set_cons_succ])
     go_cut [] (fun wc => ∃ (kq : Nat), Aside0 (shelfmarklaw12_AtlasBack.j1 kq a1 a2 a0_0 l0_1 = some r) ∧ Aside0 (kq ≤ kj5) ∧ Aside0 (Kd.R k46 46 wc w.heap.size (fun _ => True) (.slice Ao27 t371.length co27) t371) ∧ Aside0 (wc.heap[gb367]? = some (.cells #[.int .i64 a0_0, (.slice A0_1 l0_1.length c0_1)] 24 (0, 0))) ∧ Aside0 (wc.heap[gb375]? = some (.cells #[.int .i64 t370, (.slice Ao27 t371.length co27)] 24 (0, 0))) ∧ Aside0 (Below w.heap.size w wc))
     case first =>
      have H := HC21.out
      clear HC21
      by_cases c28 : t374 = 0
      ·rw [if_pos c28] at H
       have c28b0 : (t374 == 0) = true := beq_iff_eq.mpr c28
       have c28b1 : (t374 != 0) = false := bne_eq_false_iff_eq.mpr c28
       clear c28
       (first | rw [c28b0] | (simp only [i64_w, i32_w]; rw [c28b0]) | skip)
       replace H := Option.bind_eq_some_iff.mp H
       obtain ⟨⟨t376, t377, t380⟩, A290, H⟩ := H
       replace H : (if t380 = 0 then ((shelfmarkref12_Same.f kj5 a0_0 t377 a0_0 l0_1).bind fun t382 => (if t382 = true then (shelfmarklaw12_AtlasBack.j1 kj5 a1 a2 a0_0 l0_1) else (some false))) else (some false)) = some r := H
       have A29 := Aside0.mk A290
       clear A290
       by_cases c30 : t380 = 0
       ·rw [if_pos c30] at H
        have c30b0 : (t380 == 0) = true := beq_iff_eq.mpr c30
        have c30b1 : (t380 != 0) = false := bne_eq_false_iff_eq.mpr c30
        clear c30
        replace H := Option.bind_eq_some_iff.mp H
        obtain ⟨t382, A310, H⟩ := H
        replace H : (if t382 = true then (shelfmarklaw12_AtlasBack.j1 kj5 a1 a2 a0_0 l0_1) else (some false)) = some r := H
        have A31 := Aside0.mk A310
        clear A310
        by_cases c32 : t382 = true
        ·subst c32
         have H1 : (shelfmarklaw12_AtlasBack.j1 kj5 a1 a2 a0_0 l0_1) = some r := by rw [if_pos rfl] at H; exact H
         clear H
         have H := H1
         clear H1
         have H' := Aside0.mk H
         clear H
         have hnb33 := NB375_367.out
         have hnc33 := NB367_375.out
         have hcz34_0 : w24.cell? ⟨gb375, 0, none⟩ = some (.int .i64 0) := (blk_cell BK375.out 0).trans rfl
         have hcz34_1 : w24.cell? ⟨gb375, 1, none⟩ = some (.slice none 0 0) := (blk_cell BK375.out 1).trans rfl
         have hfz34_0 := blk_frozen BK375.out 0
         have hfz34_1 := blk_frozen BK375.out 1
         go_wp2_with (first | ((with_reducible refine gate_callee (f := 23) rfl ?_); refine goesL_ (some 43) rfl rfl Try.func23 (by kernel_rfl) rfl #[.agg #[.int .i64 t370, .slice Ao27 t371.length co27], .string a1] rfl (by (try simp only [List.map_toArray, List.map_cons, List.map_nil]); first | done | rfl | (simp only [List.length_drop, List.length_take]; rfl)) ?_; (with_reducible refine (atlas_Merge.calls kj5 t370 _ _ t371 a1 t376 t377 t380 _ ?side1 ?side2 A29.out).mono ?_); (case side1 => refine (Kd.R_reads' (e := 46) (base := w.heap.size) (ok := fun k_ => True) (n := t371.length) (c := co27) ?_).2.2; exact (by (with_reducible repeat (first | apply Kd.R_alloc | apply Kd.R_drewN | apply Kd.R_drew)); exact (Kd.R_mono (Kd.R_far (p := ⟨gb375, 1, none⟩) (Kd.R_far (p := ⟨gb375, 0, none⟩) (Kd.R_types HO373.out BK375.out (by decide)) (fun _ hk => hk.2) (.int .i64 t370)) (fun _ hk => hk.2) (.slice Ao27 t371.length co27)) (fun _ h_ => h_.1)))); (case side2 => exact (Kd.R_reads' HO373.out).2.1); rintro e w35 ⟨v378, rfl, ho0, hb⟩; refine ⟨_, rfl, ?_⟩; have n0_ := Aside0.mk (Kd.R_elder' (by (with_reducible repeat (first | apply Kd.R_alloc | apply Kd.R_drewN | apply Kd.R_drew)); exact (Kd.R_mono (Kd.R_far (p := ⟨gb375, 1, none⟩) (Kd.R_far (p := ⟨gb375, 0, none⟩) (Kd.R_types HO373.out BK375.out (by decide)) (fun _ hk => hk.2) (.int .i64 t370)) (fun _ hk => hk.2) (.slice Ao27 t371.length co27)) (fun _ h_ => h_.1))) (Kd.R_base ho0) hb); have n1_ := Aside0.mk (Kd.R_lower (Kd.R_new' ho0 (Kd.R_lt (by (with_reducible repeat (first | apply Kd.R_alloc | apply Kd.R_drewN | apply Kd.R_drew)); exact (Kd.R_mono (Kd.R_far (p := ⟨gb375, 1, none⟩) (Kd.R_far (p := ⟨gb375, 0, none⟩) (Kd.R_types HO373.out BK375.out (by decide)) (fun _ hk => hk.2) (.int .i64 t370)) (fun _ hk => hk.2) (.slice Ao27 t371.length co27)) (fun _ h_ => h_.1))))) (below_size (by repeat (first | (with_reducible first | exact HB.out | apply below_alloc | apply pw_below_drewN | apply below_drew1 | refine below_set ?_ GE367.out | refine below_set ?_ GE375.out) | exact HB.out)))); have n2_ := Aside0.mk (blk_below (g := gb367) (o := .cells #[.int .i64 a0_0, .slice A0_1 l0_1.length c0_1] 24 (0, 0)) (by (with_reducible repeat (first | refine blk_drewN ?_ _ | refine blk_drew ?_ | refine blk_alloc ?_ _)); refine blk_far ?_ NB367_375.out _; (with_reducible repeat (first | refine blk_drewN ?_ _ | refine blk_drew ?_ | refine blk_alloc ?_ _)); refine blk_far ?_ NB367_375.out _; (with_reducible repeat (first | refine blk_drewN ?_ _ | refine blk_drew ?_ | refine blk_alloc ?_ _)); exact BK367.out) hb); have n3_ := Aside0.mk (blk_below (g := gb375) (o := .cells #[.int .i64 t370, .slice Ao27 t371.length co27] 24 (0, 0)) (by (with_reducible repeat (first | refine blk_drewN ?_ _ | refine blk_drew ?_ | refine blk_alloc ?_ _)); refine blk_put (cs := #[.int .i64 t370, .slice none 0 0]) ?_ 1 _ rfl; (with_reducible repeat (first | refine blk_drewN ?_ _ | refine blk_drew ?_ | refine blk_alloc ?_ _)); refine blk_put (cs := #[.int .i64 0, .slice none 0 0]) ?_ 0 _ rfl; (with_reducible repeat (first | refine blk_drewN ?_ _ | refine blk_drew ?_ | refine blk_alloc ?_ _)); exact BK375.out) hb); have n4_ := Aside0.mk (below_step (by repeat (first | (with_reducible first | exact HB.out | apply below_alloc | apply pw_below_drewN | apply below_drew1 | refine below_set ?_ GE367.out | refine below_set ?_ GE375.out) | exact HB.out)) hb); clear HO373; clear BK367; clear BK375; clear HB; have HO373 := n0_; have HO379 := n1_; have BK367 := n2_; have BK375 := n3_; have HB := n4_; clear n0_ n1_ n2_ n3_ n4_; (try clear hb); (try clear hb2); (try clear hk); (try clear hi); (try clear ho0)) | ((with_reducible refine gate_dst (N := 9) rfl ?_); (try (refine gate_guard (by rfl) ?_; dsimp only)); refine box_event ?hg (N := 9) ?hd (cs := #[.int .i64 0, .slice none 0 0]) (t := 24) ?hr ?_; (case hd => rfl); (case hg => rfl); (case hr => first | (go_simp; done) | (go_simp; rfl)); intro gb381 hg w36 hbox hb; have n0_ := Aside0.mk (Kd.R_below (by (with_reducible repeat (first | apply Kd.R_alloc | apply Kd.R_drewN | apply Kd.R_drew)); exact HO373.out) hb); have n1_ := Aside0.mk (Kd.R_below (by (with_reducible repeat (first | apply Kd.R_alloc | apply Kd.R_drewN | apply Kd.R_drew)); exact HO379.out) hb); have n2_ := Aside0.mk (blk_below BK367.out hb); have n3_ := Aside0.mk (blk_below BK375.out hb); have n4_ := Aside0.mk (below_step (by repeat (first | (with_reducible first | exact HB.out | apply below_alloc | apply pw_below_drewN | apply below_drew1 | refine below_set ?_ GE367.out | refine below_set ?_ GE375.out) | exact HB.out)) hb); have n5_ := Aside0.mk (hbox); have n6_ := Aside0.mk ((by rw [hg]; exact (below_size (by repeat (first | (with_reducible first | exact HB.out | apply below_alloc | apply pw_below_drewN | apply below_drew1 | refine below_set ?_ GE367.out | refine below_set ?_ GE375.out) | exact HB.out))) : w.heap.size ≤ gb381)); have n7_ := Aside0.mk ((by rw [hg]; exact (below_size (by repeat (first | (with_reducible first | exact HB.out | apply below_alloc | apply pw_below_drewN | apply below_drew1 | refine below_set ?_ GE367.out | refine below_set ?_ GE375.out) | exact HB.out))) : w.heap.size ≤ gb381)); have n8_ := Aside0.mk ((by rw [hg]; exact Nat.ne_of_lt (blk_lt (g := gb367) (o := .cells #[.int .i64 a0_0, .slice A0_1 l0_1.length c0_1] 24 (0, 0)) (by (with_reducible repeat (first | refine blk_drewN ?_ _ | refine blk_drew ?_ | refine blk_alloc ?_ _)); exact BK367.out)) : gb367 ≠ gb381)); have n9_ := Aside0.mk ((by rw [hg]; exact Nat.ne_of_gt (blk_lt (g := gb367) (o := .cells #[.int .i64 a0_0, .slice A0_1 l0_1.length c0_1] 24 (0, 0)) (by (with_reducible repeat (first | refine blk_drewN ?_ _ | refine blk_drew ?_ | refine blk_alloc ?_ _)); exact BK367.out)) : gb381 ≠ gb367)); have n10_ := Aside0.mk ((by rw [hg]; exact Nat.ne_of_lt (blk_lt (g := gb375) (o := .cells #[.int .i64 t370, .slice Ao27 t371.length co27] 24 (0, 0)) (by (with_reducible repeat (first | refine blk_drewN ?_ _ | refine blk_drew ?_ | refine blk_alloc ?_ _)); exact BK375.out)) : gb375 ≠ gb381)); have n11_ := Aside0.mk ((by rw [hg]; exact Nat.ne_of_gt (blk_lt (g := gb375) (o := .cells #[.int .i64 t370, .slice Ao27 t371.length co27] 24 (0, 0)) (by (with_reducible repeat (first | refine blk_drewN ?_ _ | refine blk_drew ?_ | refine blk_alloc ?_ _)); exact BK375.out)) : gb381 ≠ gb375)); clear HO373; clear HO379; clear BK367; clear BK375; clear HB; have HO373 := n0_; have HO379 := n1_; have BK367 := n2_; have BK375 := n3_; have HB := n4_; have BK381 := n5_; have GW381 := n6_; have GE381 := n7_; have NB367_381 := n8_; have NB381_367 := n9_; have NB375_381 := n10_; have NB381_375 := n11_; clear n0_ n1_ n2_ n3_ n4_ n5_ n6_ n7_ n8_ n9_ n10_ n11_; clear hb hbox hg; have hnb37 := NB381_367.out; have hnc37 := NB367_381.out; have hnb38 := NB381_375.out; have hnc38 := NB375_381.out; have hcz39_0 : w36.cell? ⟨gb381, 0, none⟩ = some (.int .i64 0) := (blk_cell BK381.out 0).trans rfl; have hcz39_1 : w36.cell? ⟨gb381, 1, none⟩ = some (.slice none 0 0) := (blk_cell BK381.out 1).trans rfl; have hfz39_0 := blk_frozen BK381.out 0; have hfz39_1 := blk_frozen BK381.out 1; obtain ⟨Ao40, co40, eo40⟩ := Kd.R_slice HO379.out; subst eo40; have hcz41_0 : w36.cell? ⟨gb367, 0, none⟩ = some (.int .i64 a0_0) := (blk_cell BK367.out 0).trans rfl; have hcz41_1 : w36.cell? ⟨gb367, 1, none⟩ = some (.slice A0_1 l0_1.length c0_1) := (blk_cell BK367.out 1).trans rfl; have hfz41_0 := blk_frozen BK367.out 0; have hfz41_1 := blk_frozen BK367.out 1) | (go_at_call 19; (with_reducible refine (shelfmarkref12_Same.calls kj5 a0_0 _ _ t377 a0_0 _ _ l0_1 true _ ?side1 ?side2 ?side3 ?side4 A31.out).mono ?_); (case side1 => refine (Kd.R_reads' (e := 46) (base := w.heap.size) (ok := fun k_ => (True ∧ some k_ ≠ (.slice Ao27 t371.length co27 : Value).ownBlock)) (n := t377.length) (c := co40) ?_).2.2; exact (by (with_reducible repeat (first | apply Kd.R_alloc | apply Kd.R_drewN | apply Kd.R_drew)); exact (Kd.R_mono (Kd.R_far (p := ⟨gb381, 0, none⟩) (Kd.R_far (p := ⟨gb381, 1, none⟩) (Kd.R_far (p := ⟨gb381, 0, none⟩) (Kd.R_types HO379.out BK381.out (by decide)) (fun _ hk => hk.2) (.int .i64 t376)) (fun _ hk => hk.2) (.slice Ao40 t377.length co40)) (fun _ hk => hk.2) (.int .i64 a0_0)) (fun _ h_ => h_.1)))); (case side2 => exact (Kd.R_reads' HO379.out).2.1); (case side3 => exact Kd.C_below HR0_1.out (by repeat (first | (with_reducible first | exact HB.out | apply below_alloc | apply pw_below_drewN | apply below_drew1 | refine below_set ?_ GE367.out | refine below_set ?_ GE375.out | refine below_set ?_ GE381.out) | exact HB.out))); (case side4 => exact HC0_1.out); rintro e w42 ⟨rfl, hb⟩; have n0_ := Aside0.mk (Kd.R_below (by (with_reducible repeat (first | apply Kd.R_alloc | apply Kd.R_drewN | apply Kd.R_drew)); exact (Kd.R_mono (Kd.R_far (p := ⟨gb381, 0, none⟩) (Kd.R_far (p := ⟨gb381, 1, none⟩) (Kd.R_far (p := ⟨gb381, 0, none⟩) (Kd.R_types HO373.out BK381.out (by decide)) (fun _ hk => hk.2) (.int .i64 t376)) (fun _ hk => hk.2) (.slice Ao40 t377.length co40)) (fun _ hk => hk.2) (.int .i64 a0_0)) (fun _ h_ => h_.1))) hb); have n1_ := Aside0.mk (Kd.R_below (by (with_reducible repeat (first | apply Kd.R_alloc | apply Kd.R_drewN | apply Kd.R_drew)); exact (Kd.R_mono (Kd.R_far (p := ⟨gb381, 0, none⟩) (Kd.R_far (p := ⟨gb381, 1, none⟩) (Kd.R_far (p := ⟨gb381, 0, none⟩) (Kd.R_types HO379.out BK381.out (by decide)) (fun _ hk => hk.2) (.int .i64 t376)) (fun _ hk => hk.2) (.slice Ao40 t377.length co40)) (fun _ hk => hk.2) (.int .i64 a0_0)) (fun _ h_ => h_.1))) hb); have n2_ := Aside0.mk (blk_below (g := gb367) (o := .cells #[.int .i64 a0_0, .slice A0_1 l0_1.length c0_1] 24 (0, 0)) (by (with_reducible repeat (first | refine blk_drewN ?_ _ | refine blk_drew ?_ | refine blk_alloc ?_ _)); refine blk_far ?_ NB367_381.out _; (with_reducible repeat (first | refine blk_drewN ?_ _ | refine blk_drew ?_ | refine blk_alloc ?_ _)); refine blk_far ?_ NB367_381.out _; (with_reducible repeat (first | refine blk_drewN ?_ _ | refine blk_drew ?_ | refine blk_alloc ?_ _)); refine blk_far ?_ NB367_381.out _; (with_reducible repeat (first | refine blk_drewN ?_ _ | refine blk_drew ?_ | refine blk_alloc ?_ _)); exact BK367.out) hb); have n3_ := Aside0.mk (blk_below (g := gb375) (o := .cells #[.int .i64 t370, .slice Ao27 t371.length co27] 24 (0, 0)) (by (with_reducible repeat (first | refine blk_drewN ?_ _ | refine blk_drew ?_ | refine blk_alloc ?_ _)); refine blk_far ?_ NB375_381.out _; (with_reducible repeat (first | refine blk_drewN ?_ _ | refine blk_drew ?_ | refine blk_alloc ?_ _)); refine blk_far ?_ NB375_381.out _; (with_reducible repeat (first | refine blk_drewN ?_ _ | refine blk_drew ?_ | refine blk_alloc ?_ _)); refine blk_far ?_ NB375_381.out _; (with_reducible repeat (first | refine blk_drewN ?_ _ | refine blk_drew ?_ | refine blk_alloc ?_ _)); exact BK375.out) hb); have n4_ := Aside0.mk (blk_below (g := gb381) (o := .cells #[.int .i64 a0_0, .slice Ao40 t377.length co40] 24 (0, 0)) (by (with_reducible repeat (first | refine blk_drewN ?_ _ | refine blk_drew ?_ | refine blk_alloc ?_ _)); refine blk_put (cs := #[.int .i64 t376, .slice Ao40 t377.length co40]) ?_ 0 _ rfl; (with_reducible repeat (first | refine blk_drewN ?_ _ | refine blk_drew ?_ | refine blk_alloc ?_ _)); refine blk_put (cs := #[.int .i64 t376, .slice none 0 0]) ?_ 1 _ rfl; (with_reducible repeat (first | refine blk_drewN ?_ _ | refine blk_drew ?_ | refine blk_alloc ?_ _)); refine blk_put (cs := #[.int .i64 0, .slice none 0 0]) ?_ 0 _ rfl; (with_reducible repeat (first | refine blk_drewN ?_ _ | refine blk_drew ?_ | refine blk_alloc ?_ _)); exact BK381.out) hb); have n5_ := Aside0.mk (below_step (by repeat (first | (with_reducible first | exact HB.out | apply below_alloc | apply pw_below_drewN | apply below_drew1 | refine below_set ?_ GE367.out | refine below_set ?_ GE375.out | refine below_set ?_ GE381.out) | exact HB.out)) hb); clear HO373; clear HO379; clear BK367; clear BK375; clear BK381; clear HB; have HO373 := n0_; have HO379 := n1_; have BK367 := n2_; have BK375 := n3_; have BK381 := n4_; have HB := n5_; clear n0_ n1_ n2_ n3_ n4_ n5_; (try clear hb); (try clear hb2); (try clear hk); (try clear hi)))
         go_meet
         case rel => exact ⟨_, H', ⟨by have := HJ5.out; first | omega | exact Nat.le_refl _⟩, ⟨by (with_reducible repeat (first | apply Kd.R_alloc | apply Kd.R_drewN | apply Kd.R_drew)); exact Kd.R_mono HO373.out (fun _ hk => trivial)⟩, ⟨by (with_reducible repeat (first | refine blk_drewN ?_ _ | refine blk_drew ?_ | refine blk_alloc ?_ _)); exact BK367.out⟩, ⟨by (with_reducible repeat (first | refine blk_drewN ?_ _ | refine blk_drew ?_ | refine blk_alloc ?_ _)); exact BK375.out⟩, ⟨by repeat (first | (with_reducible first | exact HB.out | apply below_alloc | apply pw_below_drewN | apply below_drew1 | refine below_set ?_ GE367.out | refine below_set ?_ GE375.out | refine below_set ?_ GE381.out) | exact HB.out)⟩⟩
        ·replace c32 := Bool.eq_false_iff.mpr c32
         subst c32
         have H1 : (some false) = some r := by rw [if_neg (show ¬ (false = true) by decide)] at H; exact H
         clear H
         have H := H1
         clear H1
         obtain rfl := Option.some.inj H
         exact absurd HLAW.out (by decide)
       ·rw [if_neg c30] at H
        have c30b0 : (t380 == 0) = false := beq_eq_false_iff_ne.mpr c30
        have c30b1 : (t380 != 0) = true := bne_iff_ne.mpr c30
        obtain rfl := Option.some.inj H
        exact absurd HLAW.out (by decide)
      ·rw [if_neg c28] at H
       have c28b0 : (t374 == 0) = false := beq_eq_false_iff_ne.mpr c28
       have c28b1 : (t374 != 0) = true := bne_iff_ne.mpr c28
       (first | rw [c28b0] | (simp only [i64_w, i32_w]; rw [c28b0]) | skip)
       have H' := Aside0.mk H
       clear H
       go_wp2
       go_meet
       case rel => exact ⟨_, H', ⟨by have := HJ5.out; first | omega | exact Nat.le_refl _⟩, ⟨by (with_reducible repeat (first | apply Kd.R_alloc | apply Kd.R_drewN | apply Kd.R_drew)); exact Kd.R_mono (Kd.R_far (p := ⟨gb375, 1, none⟩) (Kd.R_far (p := ⟨gb375, 0, none⟩) (Kd.R_types HO373.out BK375.out (by decide)) (fun _ hk => hk.2) (.int .i64 t370)) (fun _ hk => hk.2) (.slice Ao27 t371.length co27)) (fun _ hk => trivial)⟩, ⟨by (with_reducible repeat (first | refine blk_drewN ?_ _ | refine blk_drew ?_ | refine blk_alloc ?_ _)); refine blk_far ?_ NB367_375.out _; (with_reducible repeat (first | refine blk_drewN ?_ _ | refine blk_drew ?_ | refine blk_alloc ?_ _)); refine blk_far ?_ NB367_375.out _; (with_reducible repeat (first | refine blk_drewN ?_ _ | refine blk_drew ?_ | refine blk_alloc ?_ _)); exact BK367.out⟩, ⟨by (with_reducible repeat (first | refine blk_drewN ?_ _ | refine blk_drew ?_ | refine blk_alloc ?_ _)); refine blk_put (cs := #[.int .i64 t370, .slice none 0 0]) ?_ 1 _ rfl; (with_reducible repeat (first | refine blk_drewN ?_ _ | refine blk_drew ?_ | refine blk_alloc ?_ _)); refine blk_put (cs := #[.int .i64 0, .slice none 0 0]) ?_ 0 _ rfl; (with_reducible repeat (first | refine blk_drewN ?_ _ | refine blk_drew ?_ | refine blk_alloc ?_ _)); exact BK375.out⟩, ⟨by repeat (first | (with_reducible first | exact HB.out | apply below_alloc | apply pw_below_drewN | apply below_drew1 | refine below_set ?_ GE367.out | refine below_set ?_ GE375.out) | exact HB.out)⟩⟩
     case rest =>
      clear HC21
      try clear c1
      try clear c2
      try clear p2
      try clear c3
      try clear c5
      try clear c9
      try clear c10
      try clear c11
      try clear c11b0
      try clear c11b0z
      try clear c11b1
      try clear c11b1z
      try clear c19
      try clear c22
      try clear c23
      try clear c25
      try clear c28
      try clear c28b0
      try clear c28b0z
      try clear c28b1
      try clear c28b1z
      try clear c30
      try clear c30b0
      try clear c30b0z
      try clear c30b1
      try clear c30b1z
      try clear c32
      try clear c33
      try clear c37
      try clear c38
      try clear hcz12_0
      try clear hcz12_1
      try clear hcz14_0
      try clear hcz14_1
      try clear hcz16_0
      try clear hcz16_1
      try clear hcz17_0
      try clear hcz17_1
      try clear hcz22_0
      try clear hcz22_1
      try clear hcz26_0
      try clear hcz26_1
      try clear hcz34_0
      try clear hcz34_1
      try clear hcz39_0
      try clear hcz39_1
      try clear hcz41_0
      try clear hcz41_1
      try clear hfz12_0
      try clear hfz12_1
      try clear hfz14_0
      try clear hfz14_1
      try clear hfz16_0
      try clear hfz16_1
      try clear hfz17_0
      try clear hfz17_1
      try clear hfz22_0
      try clear hfz22_1
      try clear hfz26_0
      try clear hfz26_1
      try clear hfz34_0
      try clear hfz34_1
      try clear hfz39_0
      try clear hfz39_1
      try clear hfz41_0
      try clear hfz41_1
      try clear p2
      obtain ⟨kq, HA, HJ20, HO_376001, BK367, BK375, HB⟩ := hcut
      cases kq with
      | zero => exact absurd HA.out (by simp [shelfmarklaw12_AtlasBack.j1])
      | succ kj20 =>
       have H := HA.out
       clear HA
       simp only [shelfmarklaw12_AtlasBack.j1] at H
       replace H := Option.bind_eq_some_iff.mp H
       obtain ⟨⟨t383, t384, t387⟩, A430, H⟩ := H
       replace H : (if t387 = 0 then ((atlas_Find.f kj20 a0_0 l0_1 a1).bind fun bt389 => (if bt389.2 = true then (if bt389.1 < 0 then (shelfmarklaw12_AtlasBack.j2 kj20 a1 bt389.1 true a0_0 l0_1 t383 t384) else (shelfmarklaw12_AtlasBack.j2 kj20 a1 bt389.1 (decide (bt389.1 ≥ (l0_1.length : Int))) a0_0 l0_1 t383 t384)) else (shelfmarklaw12_AtlasBack.j2 kj20 a1 bt389.1 true a0_0 l0_1 t383 t384))) else (some true)) = some r := H
       have A43 := Aside0.mk A430
       clear A430
       by_cases c44 : t387 = 0
       ·rw [if_pos c44] at H
        have c44b0 : (t387 == 0) = true := beq_iff_eq.mpr c44
        have c44b1 : (t387 != 0) = false := bne_eq_false_iff_eq.mpr c44
        clear c44
        replace H := Option.bind_eq_some_iff.mp H
        obtain ⟨⟨t389, t390⟩, A450, H⟩ := H
        replace H : (if t390 = true then (if t389 < 0 then (shelfmarklaw12_AtlasBack.j2 kj20 a1 t389 true a0_0 l0_1 t383 t384) else (shelfmarklaw12_AtlasBack.j2 kj20 a1 t389 (decide (t389 ≥ (l0_1.length : Int))) a0_0 l0_1 t383 t384)) else (shelfmarklaw12_AtlasBack.j2 kj20 a1 t389 true a0_0 l0_1 t383 t384)) = some r := H
        have A45 := Aside0.mk A450
        clear A450
        have HC46 := Aside0.mk H
        clear H
        have hnb47 := NB367_375.out
        have hnc47 := NB375_367.out
        have hcz48_0 : wc.cell? ⟨gb367, 0, none⟩ = some (.int .i64 a0_0) := (blk_cell BK367.out 0).trans rfl
        have hcz48_1 : wc.cell? ⟨gb367, 1, none⟩ = some (.slice A0_1 l0_1.length c0_1) := (blk_cell BK367.out 1).trans rfl
        have hfz48_0 := blk_frozen BK367.out 0
        have hfz48_1 := blk_frozen BK367.out 1
        go_upto_region 15 with (first | ((with_reducible refine gate_callee (f := 24) rfl ?_); refine goesL_ (some 61) rfl rfl Try.func24 (by kernel_rfl) rfl #[.agg #[.int .i64 a0_0, .slice A0_1 l0_1.length c0_1], .string a1, .int .i64 a2] rfl (by (try simp only [List.map_toArray, List.map_cons, List.map_nil]); first | done | rfl | (simp only [List.length_drop, List.length_take]; rfl)) ?_; (with_reducible refine (atlas_Move.calls kj20 a0_0 _ _ l0_1 a1 a2 t383 t384 t387 _ ?side1 ?side2 A43.out).mono ?_); (case side1 => repeat (first | exact (Kd.C_below HR0_1.out HB.out) | (with_reducible refine Kd.C_alloc ?_ _) | (with_reducible refine Kd.C_drewN ?_ _) | (with_reducible refine Kd.C_drew ?_))); (case side2 => exact HC0_1.out); rintro e w49 ⟨v385, rfl, ho0, hb⟩; refine ⟨_, rfl, ?_⟩; have n0_ := Aside0.mk (Kd.R_elder' (by (with_reducible repeat (first | apply Kd.R_alloc | apply Kd.R_drewN | apply Kd.R_drew)); exact HO_376001.out) (Kd.R_base ho0) hb); have n1_ := Aside0.mk (Kd.R_lower (Kd.R_new' ho0 (Kd.R_lt (by (with_reducible repeat (first | apply Kd.R_alloc | apply Kd.R_drewN | apply Kd.R_drew)); exact HO_376001.out))) (below_size (by repeat (first | (with_reducible first | exact HB.out | apply below_alloc | apply pw_below_drewN | apply below_drew1 | refine below_set ?_ GE367.out | refine below_set ?_ GE375.out) | exact HB.out)))); have n2_ := Aside0.mk (blk_below BK367.out hb); have n3_ := Aside0.mk (blk_below BK375.out hb); have n4_ := Aside0.mk (below_step (by repeat (first | (with_reducible first | exact HB.out | apply below_alloc | apply pw_below_drewN | apply below_drew1 | refine below_set ?_ GE367.out | refine below_set ?_ GE375.out) | exact HB.out)) hb); clear HO_376001; clear BK367; clear BK375; clear HB; have HO_376001 := n0_; have HO386 := n1_; have BK367 := n2_; have BK375 := n3_; have HB := n4_; clear n0_ n1_ n2_ n3_ n4_; (try clear hb); (try clear hb2); (try clear hk); (try clear hi); (try clear ho0)) | ((with_reducible refine gate_dst (N := 11) rfl ?_); (try (refine gate_guard (by rfl) ?_; dsimp only)); refine box_event ?hg (N := 11) ?hd (cs := #[.int .i64 0, .slice none 0 0]) (t := 24) ?hr ?_; (case hd => rfl); (case hg => rfl); (case hr => first | (go_simp; done) | (go_simp; rfl)); intro gb388 hg w50 hbox hb; have n0_ := Aside0.mk (Kd.R_below (by (with_reducible repeat (first | apply Kd.R_alloc | apply Kd.R_drewN | apply Kd.R_drew)); exact HO_376001.out) hb); have n1_ := Aside0.mk (Kd.R_below (by (with_reducible repeat (first | apply Kd.R_alloc | apply Kd.R_drewN | apply Kd.R_drew)); exact HO386.out) hb); have n2_ := Aside0.mk (blk_below BK367.out hb); have n3_ := Aside0.mk (blk_below BK375.out hb); have n4_ := Aside0.mk (below_step (by repeat (first | (with_reducible first | exact HB.out | apply below_alloc | apply pw_below_drewN | apply below_drew1 | refine below_set ?_ GE367.out | refine below_set ?_ GE375.out) | exact HB.out)) hb); have n5_ := Aside0.mk (hbox); have n6_ := Aside0.mk ((by rw [hg]; exact (below_size (by repeat (first | (with_reducible first | exact HB.out | apply below_alloc | apply pw_below_drewN | apply below_drew1 | refine below_set ?_ GE367.out | refine below_set ?_ GE375.out) | exact HB.out))) : w.heap.size ≤ gb388)); have n7_ := Aside0.mk ((by rw [hg]; exact (below_size (by repeat (first | (with_reducible first | exact HB.out | apply below_alloc | apply pw_below_drewN | apply below_drew1 | refine below_set ?_ GE367.out | refine below_set ?_ GE375.out) | exact HB.out))) : w.heap.size ≤ gb388)); have n8_ := Aside0.mk ((by rw [hg]; exact Nat.ne_of_lt (blk_lt (g := gb367) (o := .cells #[.int .i64 a0_0, .slice A0_1 l0_1.length c0_1] 24 (0, 0)) (by (with_reducible repeat (first | refine blk_drewN ?_ _ | refine blk_drew ?_ | refine blk_alloc ?_ _)); exact BK367.out)) : gb367 ≠ gb388)); have n9_ := Aside0.mk ((by rw [hg]; exact Nat.ne_of_gt (blk_lt (g := gb367) (o := .cells #[.int .i64 a0_0, .slice A0_1 l0_1.length c0_1] 24 (0, 0)) (by (with_reducible repeat (first | refine blk_drewN ?_ _ | refine blk_drew ?_ | refine blk_alloc ?_ _)); exact BK367.out)) : gb388 ≠ gb367)); have n10_ := Aside0.mk ((by rw [hg]; exact Nat.ne_of_lt (blk_lt (g := gb375) (o := .cells #[.int .i64 t370, .slice Ao27 t371.length co27] 24 (0, 0)) (by (with_reducible repeat (first | refine blk_drewN ?_ _ | refine blk_drew ?_ | refine blk_alloc ?_ _)); exact BK375.out)) : gb375 ≠ gb388)); have n11_ := Aside0.mk ((by rw [hg]; exact Nat.ne_of_gt (blk_lt (g := gb375) (o := .cells #[.int .i64 t370, .slice Ao27 t371.length co27] 24 (0, 0)) (by (with_reducible repeat (first | refine blk_drewN ?_ _ | refine blk_drew ?_ | refine blk_alloc ?_ _)); exact BK375.out)) : gb388 ≠ gb375)); clear HO_376001; clear HO386; clear BK367; clear BK375; clear HB; have HO_376001 := n0_; have HO386 := n1_; have BK367 := n2_; have BK375 := n3_; have HB := n4_; have BK388 := n5_; have GW388 := n6_; have GE388 := n7_; have NB367_388 := n8_; have NB388_367 := n9_; have NB375_388 := n10_; have NB388_375 := n11_; clear n0_ n1_ n2_ n3_ n4_ n5_ n6_ n7_ n8_ n9_ n10_ n11_; clear hb hbox hg; have hnb51 := NB388_367.out; have hnc51 := NB367_388.out; have hnb52 := NB388_375.out; have hnc52 := NB375_388.out; have hcz53_0 : w50.cell? ⟨gb388, 0, none⟩ = some (.int .i64 0) := (blk_cell BK388.out 0).trans rfl; have hcz53_1 : w50.cell? ⟨gb388, 1, none⟩ = some (.slice none 0 0) := (blk_cell BK388.out 1).trans rfl; have hfz53_0 := blk_frozen BK388.out 0; have hfz53_1 := blk_frozen BK388.out 1; obtain ⟨Ao54, co54, eo54⟩ := Kd.R_slice HO386.out; subst eo54; have hcz55_0 : w50.cell? ⟨gb367, 0, none⟩ = some (.int .i64 a0_0) := (blk_cell BK367.out 0).trans rfl; have hcz55_1 : w50.cell? ⟨gb367, 1, none⟩ = some (.slice A0_1 l0_1.length c0_1) := (blk_cell BK367.out 1).trans rfl; have hfz55_0 := blk_frozen BK367.out 0; have hfz55_1 := blk_frozen BK367.out 1) | ((with_reducible refine gate_callee (f := 11) rfl ?_); refine goesL_ (some 69) rfl rfl Try.func11 (by kernel_rfl) rfl #[.agg #[.int .i64 a0_0, .slice A0_1 l0_1.length c0_1], .string a1] rfl (by (try simp only [List.map_toArray, List.map_cons, List.map_nil]); first | done | rfl | (simp only [List.length_drop, List.length_take]; rfl)) ?_; (with_reducible refine (atlas_Find.calls kj20 a0_0 _ _ l0_1 a1 t389 t390 _ ?side1 ?side2 A45.out).mono ?_); (case side1 => exact Kd.C_below HR0_1.out (by repeat (first | (with_reducible first | exact HB.out | apply below_alloc | apply pw_below_drewN | apply below_drew1 | refine below_set ?_ GE367.out | refine below_set ?_ GE375.out | refine below_set ?_ GE388.out) | exact HB.out))); (case side2 => exact HC0_1.out); rintro e w56 ⟨rfl, hb⟩; refine ⟨_, rfl, ?_⟩; have n0_ := Aside0.mk (Kd.R_below (by (with_reducible repeat (first | apply Kd.R_alloc | apply Kd.R_drewN | apply Kd.R_drew)); exact (Kd.R_mono (Kd.R_far (p := ⟨gb388, 1, none⟩) (Kd.R_far (p := ⟨gb388, 0, none⟩) (Kd.R_types HO_376001.out BK388.out (by decide)) (fun _ hk => hk.2) (.int .i64 t383)) (fun _ hk => hk.2) (.slice Ao54 t384.length co54)) (fun _ h_ => h_.1))) hb); have n1_ := Aside0.mk (Kd.R_below (by (with_reducible repeat (first | apply Kd.R_alloc | apply Kd.R_drewN | apply Kd.R_drew)); exact (Kd.R_mono (Kd.R_far (p := ⟨gb388, 1, none⟩) (Kd.R_far (p := ⟨gb388, 0, none⟩) (Kd.R_types HO386.out BK388.out (by decide)) (fun _ hk => hk.2) (.int .i64 t383)) (fun _ hk => hk.2) (.slice Ao54 t384.length co54)) (fun _ h_ => h_.1))) hb); have n2_ := Aside0.mk (blk_below (g := gb367) (o := .cells #[.int .i64 a0_0, .slice A0_1 l0_1.length c0_1] 24 (0, 0)) (by (with_reducible repeat (first | refine blk_drewN ?_ _ | refine blk_drew ?_ | refine blk_alloc ?_ _)); refine blk_far ?_ NB367_388.out _; (with_reducible repeat (first | refine blk_drewN ?_ _ | refine blk_drew ?_ | refine blk_alloc ?_ _)); refine blk_far ?_ NB367_388.out _; (with_reducible repeat (first | refine blk_drewN ?_ _ | refine blk_drew ?_ | refine blk_alloc ?_ _)); exact BK367.out) hb); have n3_ := Aside0.mk (blk_below (g := gb375) (o := .cells #[.int .i64 t370, .slice Ao27 t371.length co27] 24 (0, 0)) (by (with_reducible repeat (first | refine blk_drewN ?_ _ | refine blk_drew ?_ | refine blk_alloc ?_ _)); refine blk_far ?_ NB375_388.out _; (with_reducible repeat (first | refine blk_drewN ?_ _ | refine blk_drew ?_ | refine blk_alloc ?_ _)); refine blk_far ?_ NB375_388.out _; (with_reducible repeat (first | refine blk_drewN ?_ _ | refine blk_drew ?_ | refine blk_alloc ?_ _)); exact BK375.out) hb); have n4_ := Aside0.mk (blk_below (g := gb388) (o := .cells #[.int .i64 t383, .slice Ao54 t384.length co54] 24 (0, 0)) (by (with_reducible repeat (first | refine blk_drewN ?_ _ | refine blk_drew ?_ | refine blk_alloc ?_ _)); refine blk_put (cs := #[.int .i64 t383, .slice none 0 0]) ?_ 1 _ rfl; (with_reducible repeat (first | refine blk_drewN ?_ _ | refine blk_drew ?_ | refine blk_alloc ?_ _)); refine blk_put (cs := #[.int .i64 0, .slice none 0 0]) ?_ 0 _ rfl; (with_reducible repeat (first | refine blk_drewN ?_ _ | refine blk_drew ?_ | refine blk_alloc ?_ _)); exact BK388.out) hb); have n5_ := Aside0.mk (below_step (by repeat (first | (with_reducible first | exact HB.out | apply below_alloc | apply pw_below_drewN | apply below_drew1 | refine below_set ?_ GE367.out | refine below_set ?_ GE375.out | refine below_set ?_ GE388.out) | exact HB.out)) hb); clear HO_376001; clear HO386; clear BK367; clear BK375; clear BK388; clear HB; have HO_376001 := n0_; have HO386 := n1_; have BK367 := n2_; have BK375 := n3_; have BK388 := n4_; have HB := n5_; clear n0_ n1_ n2_ n3_ n4_ n5_; (try clear hb); (try clear hb2); (try clear hk); (try clear hi)))
        (try simp only [Act.put, List.setIfInBounds_toArray, List.set_cons_zero, List.set_cons_succ])
        go_cut [84] (fun v84 wc => ∃ (kq : Nat) (x84_45 : Bool), v84 = .bool x84_45 ∧ Aside0 (shelfmarklaw12_AtlasBack.j2 kq a1 t389 x84_45 a0_0 l0_1 t383 t384 = some r) ∧ Aside0 (kq ≤ kj20) ∧ Aside0 (Kd.R k46 46 wc w.heap.size (fun k_ => some k_ ≠ ((.slice Ao54 t384.length co54) : Value).ownBlock) (.slice Ao27 t371.length co27) t371) ∧ Aside0 (Kd.R k46 46 wc w.heap.size (fun k_ => some k_ ≠ ((.slice Ao27 t371.length co27) : Value).ownBlock) (.slice Ao54 t384.length co54) t384) ∧ Aside0 (wc.heap[gb367]? = some (.cells #[.int .i64 a0_0, (.slice A0_1 l0_1.length c0_1)] 24 (0, 0))) ∧ Aside0 (wc.heap[gb375]? = some (.cells #[.int .i64 t370, (.slice Ao27 t371.length co27)] 24 (0, 0))) ∧ Aside0 (wc.heap[gb388]? = some (.cells #[.int .i64 t383, (.slice Ao54 t384.length co54)] 24 (0, 0))) ∧ Aside0 (Below w.heap.size w wc))
        case first =>
         have H := HC46.out
         clear HC46
         by_cases c57 : t390 = true
         ·subst c57
          have H1 : (if t389 < 0 then (shelfmarklaw12_AtlasBack.j2 kj20 a1 t389 true a0_0 l0_1 t383 t384) else (shelfmarklaw12_AtlasBack.j2 kj20 a1 t389 (decide (t389 ≥ (l0_1.length : Int))) a0_0 l0_1 t383 t384)) = some r := by rw [if_pos rfl] at H; exact H
          clear H
          have H := H1
          clear H1
          by_cases c58 : t389 < 0
          ·rw [if_pos c58] at H
           have c58b0 : decide (t389 < 0) = true := decide_eq_true c58
           clear c58
           (first | rw [c58b0] | (simp only [i64_w, i32_w]; rw [c58b0]) | skip)
           have H' := Aside0.mk H
           clear H
           go_wp2
           go_meet
           case rel => exact ⟨_, (true), (by first | rfl | (simp; done) | (simp [*]; done) | (simp [ne_nil_bytes]; done) | (simp [eq_nil_bytes]; done)), H', ⟨by have := HJ5.out; have := HJ20.out; first | omega | exact Nat.le_refl _⟩, ⟨by (with_reducible repeat (first | apply Kd.R_alloc | apply Kd.R_drewN | apply Kd.R_drew)); exact Kd.R_mono HO_376001.out (fun _ hk => hk.2)⟩, ⟨by (with_reducible repeat (first | apply Kd.R_alloc | apply Kd.R_drewN | apply Kd.R_drew)); exact Kd.R_mono HO386.out (fun _ hk => hk.2)⟩, ⟨by (with_reducible repeat (first | refine blk_drewN ?_ _ | refine blk_drew ?_ | refine blk_alloc ?_ _)); exact BK367.out⟩, ⟨by (with_reducible repeat (first | refine blk_drewN ?_ _ | refine blk_drew ?_ | refine blk_alloc ?_ _)); exact BK375.out⟩, ⟨by (with_reducible repeat (first | refine blk_drewN ?_ _ | refine blk_drew ?_ | refine blk_alloc ?_ _)); exact BK388.out⟩, ⟨by repeat (first | (with_reducible first | exact HB.out | apply below_alloc | apply pw_below_drewN | apply below_drew1 | refine below_set ?_ GE367.out | refine below_set ?_ GE375.out | refine below_set ?_ GE388.out) | exact HB.out)⟩⟩
          ·rw [if_neg c58] at H
           have c58b0 : decide (t389 < 0) = false := decide_eq_false c58
           clear c58
           (first | rw [c58b0] | (simp only [i64_w, i32_w]; rw [c58b0]) | skip)
           have H' := Aside0.mk H
           clear H
           have hnb59 := NB367_375.out
           have hnc59 := NB375_367.out
           have hnb60 := NB367_388.out
           have hnc60 := NB388_367.out
           have hcz61_0 : w56.cell? ⟨gb367, 0, none⟩ = some (.int .i64 a0_0) := (blk_cell BK367.out 0).trans rfl
           have hcz61_1 : w56.cell? ⟨gb367, 1, none⟩ = some (.slice A0_1 l0_1.length c0_1) := (blk_cell BK367.out 1).trans rfl
           have hfz61_0 := blk_frozen BK367.out 0
           have hfz61_1 := blk_frozen BK367.out 1
           go_wp2
           go_meet
           case rel => exact ⟨_, (decide (t389 ≥ (l0_1.length : Int))), (by first | rfl | (simp; done) | (simp [*]; done) | (simp [ne_nil_bytes]; done) | (simp [eq_nil_bytes]; done)), H', ⟨by have := HJ5.out; have := HJ20.out; first | omega | exact Nat.le_refl _⟩, ⟨by (with_reducible repeat (first | apply Kd.R_alloc | apply Kd.R_drewN | apply Kd.R_drew)); exact Kd.R_mono HO_376001.out (fun _ hk => hk.2)⟩, ⟨by (with_reducible repeat (first | apply Kd.R_alloc | apply Kd.R_drewN | apply Kd.R_drew)); exact Kd.R_mono HO386.out (fun _ hk => hk.2)⟩, ⟨by (with_reducible repeat (first | refine blk_drewN ?_ _ | refine blk_drew ?_ | refine blk_alloc ?_ _)); exact BK367.out⟩, ⟨by (with_reducible repeat (first | refine blk_drewN ?_ _ | refine blk_drew ?_ | refine blk_alloc ?_ _)); exact BK375.out⟩, ⟨by (with_reducible repeat (first | refine blk_drewN ?_ _ | refine blk_drew ?_ | refine blk_alloc ?_ _)); exact BK388.out⟩, ⟨by repeat (first | (with_reducible first | exact HB.out | apply below_alloc | apply pw_below_drewN | apply below_drew1 | refine below_set ?_ GE367.out | refine below_set ?_ GE375.out | refine below_set ?_ GE388.out) | exact HB.out)⟩⟩
         ·replace c57 := Bool.eq_false_iff.mpr c57
          subst c57
          have H1 : (shelfmarklaw12_AtlasBack.j2 kj20 a1 t389 true a0_0 l0_1 t383 t384) = some r := by rw [if_neg (show ¬ (false = true) by decide)] at H; exact H
          clear H
          have H := H1
          clear H1
          have H' := Aside0.mk H
          clear H
          go_wp2
          go_meet
          case rel => exact ⟨_, (true), (by first | rfl | (simp; done) | (simp [*]; done) | (simp [ne_nil_bytes]; done) | (simp [eq_nil_bytes]; done)), H', ⟨by have := HJ5.out; have := HJ20.out; first | omega | exact Nat.le_refl _⟩, ⟨by (with_reducible repeat (first | apply Kd.R_alloc | apply Kd.R_drewN | apply Kd.R_drew)); exact Kd.R_mono HO_376001.out (fun _ hk => hk.2)⟩, ⟨by (with_reducible repeat (first | apply Kd.R_alloc | apply Kd.R_drewN | apply Kd.R_drew)); exact Kd.R_mono HO386.out (fun _ hk => hk.2)⟩, ⟨by (with_reducible repeat (first | refine blk_drewN ?_ _ | refine blk_drew ?_ | refine blk_alloc ?_ _)); exact BK367.out⟩, ⟨by (with_reducible repeat (first | refine blk_drewN ?_ _ | refine blk_drew ?_ | refine blk_alloc ?_ _)); exact BK375.out⟩, ⟨by (with_reducible repeat (first | refine blk_drewN ?_ _ | refine blk_drew ?_ | refine blk_alloc ?_ _)); exact BK388.out⟩, ⟨by repeat (first | (with_reducible first | exact HB.out | apply below_alloc | apply pw_below_drewN | apply below_drew1 | refine below_set ?_ GE367.out | refine below_set ?_ GE375.out | refine below_set ?_ GE388.out) | exact HB.out)⟩⟩
        case rest =>
         clear HC46
         try clear c1
         try clear c2
         try clear p2
         try clear c3
         try clear c4
         try clear c5
         try clear c6
         try clear c9
         try clear c10
         try clear c11
         try clear c11b0
         try clear c11b0z
         try clear c11b1
         try clear c11b1z
         try clear c19
         try clear c22
         try clear c23
         try clear c24
         try clear c25
         try clear c28
         try clear c28b0
         try clear c28b0z
         try clear c28b1
         try clear c28b1z
         try clear c30
         try clear c30b0
         try clear c30b0z
         try clear c30b1
         try clear c30b1z
         try clear c32
         try clear c33
         try clear c37
         try clear c38
         try clear c44
         try clear c44b0
         try clear c44b0z
         try clear c44b1
         try clear c44b1z
         try clear c47
         try clear c51
         try clear c52
         try clear c57
         try clear c58
         try clear c58b0
         try clear c58b0z
         try clear c59
         try clear c60
         try clear hcz12_0
         try clear hcz12_1
         try clear hcz14_0
         try clear hcz14_1
         try clear hcz16_0
         try clear hcz16_1
         try clear hcz17_0
         try clear hcz17_1
         try clear hcz22_0
         try clear hcz22_1
         try clear hcz26_0
         try clear hcz26_1
         try clear hcz34_0
         try clear hcz34_1
         try clear hcz39_0
         try clear hcz39_1
         try clear hcz41_0
         try clear hcz41_1
         try clear hcz48_0
         try clear hcz48_1
         try clear hcz53_0
         try clear hcz53_1
         try clear hcz55_0
         try clear hcz55_1
         try clear hcz61_0
         try clear hcz61_1
         try clear hfz12_0
         try clear hfz12_1
         try clear hfz14_0
         try clear hfz14_1
         try clear hfz16_0
         try clear hfz16_1
         try clear hfz17_0
         try clear hfz17_1
         try clear hfz22_0
         try clear hfz22_1
         try clear hfz26_0
         try clear hfz26_1
         try clear hfz34_0
         try clear hfz34_1
         try clear hfz39_0
         try clear hfz39_1
         try clear hfz41_0
         try clear hfz41_1
         try clear hfz48_0
         try clear hfz48_1
         try clear hfz53_0
         try clear hfz53_1
         try clear hfz55_0
         try clear hfz55_1
         try clear hfz61_0
         try clear hfz61_1
         try clear p2
         obtain ⟨kq, x84_45, rfl, HA, HJ45, HO_376001, HO_389001, BK367, BK375, BK388, HB⟩ := hcut
         cases kq with
         | zero => exact absurd HA.out (by simp [shelfmarklaw12_AtlasBack.j2])
         | succ kj45 =>
          have H := HA.out
          clear HA
          simp only [shelfmarklaw12_AtlasBack.j2] at H
          by_cases c62 : x84_45 = true
          ·subst c62
           have H1 : (some false) = some r := by rw [if_pos rfl] at H; exact H
           clear H
           have H := H1
           clear H1
           obtain rfl := Option.some.inj H
           exact absurd HLAW.out (by decide)
          ·replace c62 := Bool.eq_false_iff.mpr c62
           subst c62
           have H1 : (if 0 ≤ t389 then (if t389 < (l0_1.length : Int) then ((atlas_Move.f kj45 t383 t384 a1 ((rd_T46 l0_1 t389).f1)).bind fun bt392 => (if bt392.2.2 = 0 then ((shelfmarkref12_Same.f kj45 a0_0 bt392.2.1 a0_0 l0_1).bind fun t398 => (some t398)) else (some false))) else (none)) else (none)) = some r := by rw [if_neg (show ¬ (false = true) by decide)] at H; exact H
           clear H
           have H := H1
           clear H1
           by_cases c63 : 0 ≤ t389
           ·rw [if_pos c63] at H
            have c63b0 : decide (0 ≤ t389) = true := decide_eq_true c63
            clear c63
            by_cases c64 : t389 < (l0_1.length : Int)
            ·rw [if_pos c64] at H
             have c64b0 : decide (t389 < (l0_1.length : Int)) = true := decide_eq_true c64
             clear c64
             replace H := Option.bind_eq_some_iff.mp H
             obtain ⟨⟨t392, t393, t396⟩, A650, H⟩ := H
             replace H : (if t396 = 0 then ((shelfmarkref12_Same.f kj45 a0_0 t393 a0_0 l0_1).bind fun t398 => (some t398)) else (some false)) = some r := H
             have A65 := Aside0.mk A650
             clear A650
             by_cases c66 : t396 = 0
             ·rw [if_pos c66] at H
              have c66b0 : (t396 == 0) = true := beq_iff_eq.mpr c66
              have c66b1 : (t396 != 0) = false := bne_eq_false_iff_eq.mpr c66
              clear c66
              replace H := Option.bind_eq_some_iff.mp H
              obtain ⟨t398, A670, H⟩ := H
              replace H : (some t398) = some r := H
              have A67 := Aside0.mk A670
              clear A670
              obtain rfl := Option.some.inj H
              simp only [Option.some.injEq, Prod.mk.injEq] at H
              obtain ⟨rfl⟩ := H
              try go_wp2
              have n0_ := Aside0.mk (Kd.R_drew HO_376001.out)
              have n1_ := Aside0.mk (Kd.R_drew HO_389001.out)
              have n2_ := Aside0.mk (blk_drew BK367.out)
              have n3_ := Aside0.mk (blk_drew BK375.out)
              have n4_ := Aside0.mk (blk_drew BK388.out)
              have n5_ := Aside0.mk (below_drew1 HB.out)
              clear HO_376001
              clear HO_389001
              clear BK367
              clear BK375
              clear BK388
              clear HB
              have HO_376001 := n0_
              have HO_389001 := n1_
              have BK367 := n2_
              have BK375 := n3_
              have BK388 := n4_
              have HB := n5_
              clear n0_ n1_ n2_ n3_ n4_ n5_
              have p391 : 0 ≤ (t389 : Int) := of_decide_eq_true (by first | (with_reducible assumption) | assumption)
              have q391 : t389 < (l0_1.length : Int) := of_decide_eq_true (by first | (with_reducible assumption) | assumption)
              obtain ⟨ad391, e391, hx391_0, hx391_1⟩ := at_T46 HR0_1.out t389 p391 q391
              have hw391_1 := hx391_1
              have hw391_0 := hx391_0
              cases e391
              replace hx391_0 := (HB.out.cell (World.block_lt_of_cell? w _ hx391_0)).trans hx391_0
              replace hx391_1 := (HB.out.cell (World.block_lt_of_cell? w _ hx391_1)).trans hx391_1
              replace p391 := eq_true p391
              replace q391 := eq_true q391
              refine start_ (n := 15) (S := fun w' => w'.cell? ⟨gb388, 0, none⟩ = some (.int .i64 t383) ∧ w'.cell? ⟨gb388, 1, none⟩ = some (.slice Ao54 t384.length co54) ∧ w'.cell? ⟨gb367, 0, none⟩ = some (.int .i64 a0_0) ∧ w'.cell? ⟨gb367, 1, none⟩ = some (.slice (some ad391) l0_1.length c0_1) ∧ w'.cell? (ad391.add ((t389).toNat * 2)) = some (.string ((rd_T46 l0_1 t389).f0)) ∧ w'.cell? ⟨(ad391.add ((t389).toNat * 2)).block, (ad391.add ((t389).toNat * 2)).off + 1, none⟩ = some (.int .i64 ((rd_T46 l0_1 t389).f1))) (ds := []) #[false, false, false, false, false, false, false, false, false, false, false, false, false, false, false] (by kernel_rfl) rfl rfl ⟨(blk_cell BK388.out 0).trans rfl, (blk_cell BK388.out 1).trans rfl, (blk_cell BK367.out 0).trans rfl, (blk_cell BK367.out 1).trans rfl, ((HB.out.cell (World.block_lt_of_cell? w _ hw391_0)).trans hw391_0), ((HB.out.cell (World.block_lt_of_cell? w _ hw391_1)).trans hw391_1)⟩ (fun hHeld => ?_); refine with_tabW shelfmarklaw12_AtlasBack.tab17 shelfmarklaw12_AtlasBack.bits17 (fun HT_ HW_ => ?_)
              generalize wc.drew = w68 at HO_376001 HO_389001 BK367 BK375 BK388 HB hx391_0 hx391_1 hHeld ⊢
              refine pure_ (i := 1) (N := some 87) (v := ?_) (a' := ?_) #[false, true, false, false, false, false, false, false, false, false, false, false, false, false, false] rfl rfl (any_of HT_.out (by kernel_rfl)) (fun _ _ _ h => h) (Or.inl ⟨by rfl, ?_⟩) ?_ ?_
              rotate_left
              ·intro w'
               go_simp
               with_reducible rfl
              rotate_left
              ·simp only [Act.put, List.setIfInBounds_toArray, List.set_cons_zero, List.set_cons_succ, i64_w, i32_w]
               rfl
              refine pure_ (i := 2) (N := some 88) (v := ?_) (a' := ?_) #[false, true, true, false, false, false, false, false, false, false, false, false, false, false, false] rfl rfl (any_of HT_.out (by kernel_rfl)) (fun _ _ _ h => h) (Or.inl ⟨by rfl, ?_⟩) ?_ ?_
              rotate_left
              ·intro w'
               go_simp
               with_reducible rfl
              rotate_left
              ·simp only [Act.put, List.setIfInBounds_toArray, List.set_cons_zero, List.set_cons_succ, i64_w, i32_w]
               rfl
              refine pure_ (i := 4) (N := some 90) (v := ?_) (a' := ?_) #[false, true, true, false, true, false, false, false, false, false, false, false, false, false, false] rfl rfl (any_of HT_.out (by kernel_rfl)) (fun _ _ _ h => h) (Or.inl ⟨by rfl, ?_⟩) ?_ ?_
              rotate_left
              ·intro w'
               go_simp
               with_reducible rfl
              rotate_left
              ·simp only [Act.put, List.setIfInBounds_toArray, List.set_cons_zero, List.set_cons_succ, i64_w, i32_w]
               rfl
              refine take_ (i := 0) (N := some 86) (v := ?_) (a' := ?_) #[true, true, true, false, true, false, false, false, false, false, false, false, false, false, false] rfl rfl (take_ofW HT_.out HW_.out (by kernel_rfl)) (fun _ _ _ h => h) (Or.inl ⟨by rfl, ?_⟩) hHeld ?_ ?_
              rotate_left
              ·rintro w' ⟨s0, s1, s2, s3, s4, s5⟩
               go_simp
               with_reducible rfl
              rotate_left
              ·simp only [Act.put, List.setIfInBounds_toArray, List.set_cons_zero, List.set_cons_succ, i64_w, i32_w]
               rfl
              refine take_ (i := 3) (N := some 89) (v := ?_) (a' := ?_) #[true, true, true, true, true, false, false, false, false, false, false, false, false, false, false] rfl rfl (take_ofW HT_.out HW_.out (by kernel_rfl)) (fun _ _ _ h => h) (Or.inl ⟨by rfl, ?_⟩) hHeld ?_ ?_
              rotate_left
              ·rintro w' ⟨s0, s1, s2, s3, s4, s5⟩
               go_simp
               with_reducible rfl
              rotate_left
              ·simp only [Act.put, List.setIfInBounds_toArray, List.set_cons_zero, List.set_cons_succ, i64_w, i32_w]
               rfl
              refine pure_ (i := 5) (N := some 91) (v := ?_) (a' := ?_) #[true, true, true, true, true, true, false, false, false, false, false, false, false, false, false] rfl rfl (any_of HT_.out (by kernel_rfl)) (fun _ _ _ h => h) (Or.inl ⟨by rfl, ?_⟩) ?_ ?_
              rotate_left
              ·intro w'
               go_simp
               with_reducible rfl
              rotate_left
              ·simp only [Act.put, List.setIfInBounds_toArray, List.set_cons_zero, List.set_cons_succ, i64_w, i32_w]
               rfl
              refine pure_ (i := 6) (N := some 92) (v := ?_) (a' := ?_) #[true, true, true, true, true, true, true, false, false, false, false, false, false, false, false] rfl rfl (any_of HT_.out (by kernel_rfl)) (fun _ _ _ h => h) (Or.inl ⟨by rfl, ?_⟩) ?_ ?_
              rotate_left
              ·intro w'
               go_simp
               with_reducible rfl
              rotate_left
              ·simp only [Act.put, List.setIfInBounds_toArray, List.set_cons_zero, List.set_cons_succ, i64_w, i32_w]
               rfl
              refine take_ (i := 7) (N := some 93) (v := ?_) (a' := ?_) #[true, true, true, true, true, true, true, true, false, false, false, false, false, false, false] rfl rfl (take_ofW HT_.out HW_.out (by kernel_rfl)) (fun _ _ _ h => h) (Or.inl ⟨by rfl, ?_⟩) hHeld ?_ ?_
              rotate_left
              ·rintro w' ⟨s0, s1, s2, s3, s4, s5⟩
               go_simp
               with_reducible rfl
              rotate_left
              ·simp only [Act.put, List.setIfInBounds_toArray, List.set_cons_zero, List.set_cons_succ, i64_w, i32_w]
               rfl
              refine join_ (σ := Value × Nat) 2 #[true, true, true, true, true, true, true, true, true, true, true, true, true, false, false] (fun s_ => [(94, .tuple #[.agg #[.int .i64 t392, s_.1], .int .i64 t396]), (15, .pointer (some ⟨s_.2, 0, none⟩)), (85, .tuple #[.agg #[.int .i64 t392, s_.1], .int .i64 t396]), (95, .agg #[.int .i64 t392, s_.1]), (96, .int .i64 t396)]) (fun s_ w' => (w'.cell? ⟨gb388, 0, none⟩ = some (.int .i64 t383) ∧ w'.cell? ⟨gb388, 1, none⟩ = some (.slice Ao54 t384.length co54) ∧ w'.cell? ⟨gb367, 0, none⟩ = some (.int .i64 a0_0) ∧ w'.cell? ⟨gb367, 1, none⟩ = some (.slice (some ad391) l0_1.length c0_1) ∧ w'.cell? (ad391.add ((t389).toNat * 2)) = some (.string ((rd_T46 l0_1 t389).f0)) ∧ w'.cell? ⟨(ad391.add ((t389).toNat * 2)).block, (ad391.add ((t389).toNat * 2)).off + 1, none⟩ = some (.int .i64 ((rd_T46 l0_1 t389).f1))) ∧ (Kd.R k46 46 w' w.heap.size (fun k_ => some k_ ≠ (.slice Ao27 t371.length co27 : Value).ownBlock ∧ some k_ ≠ (.slice Ao54 t384.length co54 : Value).ownBlock) s_.1 t393) ∧ (Kd.R k46 46 w' w.heap.size (fun k_ => some k_ ≠ (s_.1 : Value).ownBlock ∧ some k_ ≠ (.slice Ao54 t384.length co54 : Value).ownBlock) (.slice Ao27 t371.length co27) t371) ∧ (Kd.R k46 46 w' w.heap.size (fun k_ => some k_ ≠ (s_.1 : Value).ownBlock ∧ some k_ ≠ (.slice Ao27 t371.length co27 : Value).ownBlock) (.slice Ao54 t384.length co54) t384) ∧ (w'.heap[gb367]? = some (.cells #[.int .i64 a0_0, .slice (some ad391) l0_1.length c0_1] 24 (0, 0))) ∧ (w'.heap[gb375]? = some (.cells #[.int .i64 t370, .slice Ao27 t371.length co27] 24 (0, 0))) ∧ (w'.heap[gb388]? = some (.cells #[.int .i64 t383, .slice Ao54 t384.length co54] 24 (0, 0))) ∧ (w'.heap[s_.2]? = some (.cells #[.int .i64 0, .slice none 0 0] 24 (0, 0))) ∧ (w.heap.size ≤ s_.2) ∧ (w.heap.size ≤ s_.2) ∧ (gb367 ≠ s_.2) ∧ (s_.2 ≠ gb367) ∧ (gb375 ≠ s_.2) ∧ (s_.2 ≠ gb375) ∧ (gb388 ≠ s_.2) ∧ (s_.2 ≠ gb388) ∧ (Below w.heap.size w w')) ?_ ?_
              rotate_left
              ·intro hCont
               refine two_ (i := 8) (j := 12) (Ni := some 94) (Nj := some 15) #[true, true, true, true, true, true, true, true, true, false, false, false, false, false, false] #[true, true, true, true, true, true, true, true, false, false, false, false, true, false, false] rfl rfl rfl rfl (two_of HT_.out (by kernel_rfl)) (by decide) (by decide) (fun K hK => ?_) (fun K hK => ?_)
               ·skip
                refine goes_ Try.func24 (by kernel_rfl) rfl #[.agg #[.int .i64 t383, .slice Ao54 t384.length co54], .string a1, .int .i64 ((rd_T46 l0_1 t389).f1)] (by rfl) rfl rfl (by (try simp only [List.map_toArray, List.map_cons, List.map_nil]); first | done | rfl | (simp only [List.length_drop, List.length_take]; rfl)) ?_
                with_reducible refine (atlas_Move.calls kj45 t383 _ _ t384 a1 ((rd_T46 l0_1 t389).f1) t392 t393 t396 _ ?side1 ?side2 A65.out).mono ?_
                (case side1 => repeat (first | exact (Kd.R_reads' HO_389001.out).2.2 | (with_reducible refine Kd.C_alloc ?_ _) | (with_reducible refine Kd.C_drewN ?_ _) | (with_reducible refine Kd.C_drew ?_)))
                (case side2 => exact (Kd.R_reads' HO_389001.out).2.1)
                rintro e w69 ⟨v394, rfl, ho0, hb⟩
                refine ⟨_, rfl, ?_⟩
                have n0_ := Aside0.mk (Kd.R_elder' (by (with_reducible repeat (first | apply Kd.R_alloc | apply Kd.R_drewN | apply Kd.R_drew)); exact HO_376001.out) (Kd.R_base ho0) hb)
                have n1_ := Aside0.mk (Kd.R_elder' (by (with_reducible repeat (first | apply Kd.R_alloc | apply Kd.R_drewN | apply Kd.R_drew)); exact HO_389001.out) (Kd.R_base ho0) hb)
                have n2_ := Aside0.mk (Kd.R_lower (Kd.R_new' (Kd.R_new' ho0 (Kd.R_lt (by (with_reducible repeat (first | apply Kd.R_alloc | apply Kd.R_drewN | apply Kd.R_drew)); exact HO_376001.out))) (Kd.R_lt (by (with_reducible repeat (first | apply Kd.R_alloc | apply Kd.R_drewN | apply Kd.R_drew)); exact HO_389001.out))) (below_size (by repeat (first | (with_reducible first | exact HB.out | apply below_alloc | apply pw_below_drewN | apply below_drew1 | refine below_set ?_ GE367.out | refine below_set ?_ GE375.out | refine below_set ?_ GE388.out) | exact HB.out))))
                have n3_ := Aside0.mk (blk_below BK367.out hb)
                have n4_ := Aside0.mk (blk_below BK375.out hb)
                have n5_ := Aside0.mk (blk_below BK388.out hb)
                have n6_ := Aside0.mk (below_step (by repeat (first | (with_reducible first | exact HB.out | apply below_alloc | apply pw_below_drewN | apply below_drew1 | refine below_set ?_ GE367.out | refine below_set ?_ GE375.out | refine below_set ?_ GE388.out) | exact HB.out)) hb)
                clear HO_376001
                clear HO_389001
                clear BK367
                clear BK375
                clear BK388
                clear HB
                have HO_376001 := n0_
                have HO_389001 := n1_
                have HO395 := n2_
                have BK367 := n3_
                have BK375 := n4_
                have BK388 := n5_
                have HB := n6_
                clear n0_ n1_ n2_ n3_ n4_ n5_ n6_
                (try clear hb)
                (try clear hb2)
                (try clear hk)
                (try clear hi)
                (try clear ho0)
                refine hK.out _ _ ⟨(blk_cell BK388.out 0).trans rfl, (blk_cell BK388.out 1).trans rfl, (blk_cell BK367.out 0).trans rfl, (blk_cell BK367.out 1).trans rfl, ((HB.out.cell (World.block_lt_of_cell? w _ hw391_0)).trans hw391_0), ((HB.out.cell (World.block_lt_of_cell? w _ hw391_1)).trans hw391_1)⟩ (fun hHeld => ?_)
                clear hK K
                refine norm_ (a' := ?_) ?_ ?_
                rotate_left
                ·show Act.put _ (some 94) _ = _
                 simp only [Act.put, List.setIfInBounds_toArray, List.set_cons_zero, List.set_cons_succ, i64_w, i32_w]
                 rfl
                refine pure_ (i := 9) (N := some 85) (v := ?_) (a' := ?_) #[true, true, true, true, true, true, true, true, true, true, false, false, false, false, false] rfl rfl (any_of HT_.out (by kernel_rfl)) (fun _ _ _ h => h) (Or.inl ⟨by rfl, ?_⟩) ?_ ?_
                rotate_left
                ·intro w'
                 go_simp
                 with_reducible rfl
                rotate_left
                ·simp only [Act.put, List.setIfInBounds_toArray, List.set_cons_zero, List.set_cons_succ, i64_w, i32_w]
                 rfl
                refine pure_ (i := 10) (N := some 95) (v := ?_) (a' := ?_) #[true, true, true, true, true, true, true, true, true, true, true, false, false, false, false] rfl rfl (any_of HT_.out (by kernel_rfl)) (fun _ _ _ h => h) (Or.inl ⟨by rfl, ?_⟩) ?_ ?_
                rotate_left
                ·intro w'
                 go_simp
                 with_reducible rfl
                rotate_left
                ·simp only [Act.put, List.setIfInBounds_toArray, List.set_cons_zero, List.set_cons_succ, i64_w, i32_w]
                 rfl
                refine pure_ (i := 11) (N := some 96) (v := ?_) (a' := ?_) #[true, true, true, true, true, true, true, true, true, true, true, true, false, false, false] rfl rfl (any_of HT_.out (by kernel_rfl)) (fun _ _ _ h => h) (Or.inl ⟨by rfl, ?_⟩) ?_ ?_
                rotate_left
                ·intro w'
                 go_simp
                 with_reducible rfl
                rotate_left
                ·simp only [Act.put, List.setIfInBounds_toArray, List.set_cons_zero, List.set_cons_succ, i64_w, i32_w]
                 rfl
                refine one_ (i := 12) (N := some 15) #[true, true, true, true, true, true, true, true, true, true, true, true, true, false, false] rfl rfl (one_of HT_.out (by kernel_rfl)) (by decide) (fun K hK => ?_)
                refine box_step ?hg (N := 15) ?hd (cs := #[.int .i64 0, .slice none 0 0]) (t := 24) ?hr ?_; (case hd => rfl); (case hg => rfl); (case hr => first | (go_simp; done) | (go_simp; rfl))
                intro gb397 hg w70 hbox hb
                have n0_ := Aside0.mk (Kd.R_below (by (with_reducible repeat (first | apply Kd.R_alloc | apply Kd.R_drewN | apply Kd.R_drew)); exact HO_376001.out) hb)
                have n1_ := Aside0.mk (Kd.R_below (by (with_reducible repeat (first | apply Kd.R_alloc | apply Kd.R_drewN | apply Kd.R_drew)); exact HO_389001.out) hb)
                have n2_ := Aside0.mk (Kd.R_below (by (with_reducible repeat (first | apply Kd.R_alloc | apply Kd.R_drewN | apply Kd.R_drew)); exact HO395.out) hb)
                have n3_ := Aside0.mk (blk_below BK367.out hb)
                have n4_ := Aside0.mk (blk_below BK375.out hb)
                have n5_ := Aside0.mk (blk_below BK388.out hb)
                have n6_ := Aside0.mk (below_step (by repeat (first | (with_reducible first | exact HB.out | apply below_alloc | apply pw_below_drewN | apply below_drew1 | refine below_set ?_ GE367.out | refine below_set ?_ GE375.out | refine below_set ?_ GE388.out) | exact HB.out)) hb)
                have n7_ := Aside0.mk (hbox)
                have n8_ := Aside0.mk ((by rw [hg]; exact (below_size (by repeat (first | (with_reducible first | exact HB.out | apply below_alloc | apply pw_below_drewN | apply below_drew1 | refine below_set ?_ GE367.out | refine below_set ?_ GE375.out | refine below_set ?_ GE388.out) | exact HB.out))) : w.heap.size ≤ gb397))
                have n9_ := Aside0.mk ((by rw [hg]; exact (below_size (by repeat (first | (with_reducible first | exact HB.out | apply below_alloc | apply pw_below_drewN | apply below_drew1 | refine below_set ?_ GE367.out | refine below_set ?_ GE375.out | refine below_set ?_ GE388.out) | exact HB.out))) : w.heap.size ≤ gb397))
                have n10_ := Aside0.mk ((by rw [hg]; exact Nat.ne_of_lt (blk_lt (g := gb367) (o := .cells #[.int .i64 a0_0, .slice (some ad391) l0_1.length c0_1] 24 (0, 0)) (by (with_reducible repeat (first | refine blk_drewN ?_ _ | refine blk_drew ?_ | refine blk_alloc ?_ _)); exact BK367.out)) : gb367 ≠ gb397))
                have n11_ := Aside0.mk ((by rw [hg]; exact Nat.ne_of_gt (blk_lt (g := gb367) (o := .cells #[.int .i64 a0_0, .slice (some ad391) l0_1.length c0_1] 24 (0, 0)) (by (with_reducible repeat (first | refine blk_drewN ?_ _ | refine blk_drew ?_ | refine blk_alloc ?_ _)); exact BK367.out)) : gb397 ≠ gb367))
                have n12_ := Aside0.mk ((by rw [hg]; exact Nat.ne_of_lt (blk_lt (g := gb375) (o := .cells #[.int .i64 t370, .slice Ao27 t371.length co27] 24 (0, 0)) (by (with_reducible repeat (first | refine blk_drewN ?_ _ | refine blk_drew ?_ | refine blk_alloc ?_ _)); exact BK375.out)) : gb375 ≠ gb397))
                have n13_ := Aside0.mk ((by rw [hg]; exact Nat.ne_of_gt (blk_lt (g := gb375) (o := .cells #[.int .i64 t370, .slice Ao27 t371.length co27] 24 (0, 0)) (by (with_reducible repeat (first | refine blk_drewN ?_ _ | refine blk_drew ?_ | refine blk_alloc ?_ _)); exact BK375.out)) : gb397 ≠ gb375))
                have n14_ := Aside0.mk ((by rw [hg]; exact Nat.ne_of_lt (blk_lt (g := gb388) (o := .cells #[.int .i64 t383, .slice Ao54 t384.length co54] 24 (0, 0)) (by (with_reducible repeat (first | refine blk_drewN ?_ _ | refine blk_drew ?_ | refine blk_alloc ?_ _)); exact BK388.out)) : gb388 ≠ gb397))
                have n15_ := Aside0.mk ((by rw [hg]; exact Nat.ne_of_gt (blk_lt (g := gb388) (o := .cells #[.int .i64 t383, .slice Ao54 t384.length co54] 24 (0, 0)) (by (with_reducible repeat (first | refine blk_drewN ?_ _ | refine blk_drew ?_ | refine blk_alloc ?_ _)); exact BK388.out)) : gb397 ≠ gb388))
                clear HO_376001
                clear HO_389001
                clear HO395
                clear BK367
                clear BK375
                clear BK388
                clear HB
                have HO_376001 := n0_
                have HO_389001 := n1_
                have HO395 := n2_
                have BK367 := n3_
                have BK375 := n4_
                have BK388 := n5_
                have HB := n6_
                have BK397 := n7_
                have GW397 := n8_
                have GE397 := n9_
                have NB367_397 := n10_
                have NB397_367 := n11_
                have NB375_397 := n12_
                have NB397_375 := n13_
                have NB388_397 := n14_
                have NB397_388 := n15_
                clear n0_ n1_ n2_ n3_ n4_ n5_ n6_ n7_ n8_ n9_ n10_ n11_ n12_ n13_ n14_ n15_
                clear hb hbox hg
                refine hK.out _ _ ⟨(blk_cell BK388.out 0).trans rfl, (blk_cell BK388.out 1).trans rfl, (blk_cell BK367.out 0).trans rfl, (blk_cell BK367.out 1).trans rfl, ((HB.out.cell (World.block_lt_of_cell? w _ hw391_0)).trans hw391_0), ((HB.out.cell (World.block_lt_of_cell? w _ hw391_1)).trans hw391_1)⟩ (fun hHeld => ?_)
                clear hK K
                refine norm_ (a' := ?_) ?_ ?_
                rotate_left
                ·show Act.put _ (some 15) _ = _
                 simp only [Act.put, List.setIfInBounds_toArray, List.set_cons_zero, List.set_cons_succ, i64_w, i32_w]
                 rfl
                exact norm_ (by simp only [putAll, Act.put, List.setIfInBounds_toArray, List.set_cons_zero, List.set_cons_succ]) (hCont (v394, gb397) _ ⟨hHeld, (by (with_reducible repeat (first | apply Kd.R_alloc | apply Kd.R_drewN | apply Kd.R_drew)); exact Kd.R_mono HO395.out (fun _ hk => ⟨hk.1.2, hk.2⟩)), (by (with_reducible repeat (first | apply Kd.R_alloc | apply Kd.R_drewN | apply Kd.R_drew)); exact Kd.R_mono HO_376001.out (fun _ hk => ⟨hk.2, hk.1⟩)), (by (with_reducible repeat (first | apply Kd.R_alloc | apply Kd.R_drewN | apply Kd.R_drew)); exact Kd.R_mono HO_389001.out (fun _ hk => ⟨hk.2, hk.1⟩)), (by (with_reducible repeat (first | refine blk_drewN ?_ _ | refine blk_drew ?_ | refine blk_alloc ?_ _)); exact BK367.out), (by (with_reducible repeat (first | refine blk_drewN ?_ _ | refine blk_drew ?_ | refine blk_alloc ?_ _)); exact BK375.out), (by (with_reducible repeat (first | refine blk_drewN ?_ _ | refine blk_drew ?_ | refine blk_alloc ?_ _)); exact BK388.out), (by (with_reducible repeat (first | refine blk_drewN ?_ _ | refine blk_drew ?_ | refine blk_alloc ?_ _)); exact BK397.out), GW397.out, GE397.out, NB367_397.out, NB397_367.out, NB375_397.out, NB397_375.out, NB388_397.out, NB397_388.out, (by repeat (first | (with_reducible first | exact HB.out | apply below_alloc | apply pw_below_drewN | apply below_drew1 | refine below_set ?_ GE367.out | refine below_set ?_ GE375.out | refine below_set ?_ GE388.out | refine below_set ?_ GE397.out) | exact HB.out))⟩)
               ·skip
                refine box_step ?hg (N := 15) ?hd (cs := #[.int .i64 0, .slice none 0 0]) (t := 24) ?hr ?_; (case hd => rfl); (case hg => rfl); (case hr => first | (go_simp; done) | (go_simp; rfl))
                intro gb397 hg w69 hbox hb
                have n0_ := Aside0.mk (Kd.R_below (by (with_reducible repeat (first | apply Kd.R_alloc | apply Kd.R_drewN | apply Kd.R_drew)); exact HO_376001.out) hb)
                have n1_ := Aside0.mk (Kd.R_below (by (with_reducible repeat (first | apply Kd.R_alloc | apply Kd.R_drewN | apply Kd.R_drew)); exact HO_389001.out) hb)
                have n2_ := Aside0.mk (blk_below BK367.out hb)
                have n3_ := Aside0.mk (blk_below BK375.out hb)
                have n4_ := Aside0.mk (blk_below BK388.out hb)
                have n5_ := Aside0.mk (below_step (by repeat (first | (with_reducible first | exact HB.out | apply below_alloc | apply pw_below_drewN | apply below_drew1 | refine below_set ?_ GE367.out | refine below_set ?_ GE375.out | refine below_set ?_ GE388.out) | exact HB.out)) hb)
                have n6_ := Aside0.mk (hbox)
                have n7_ := Aside0.mk ((by rw [hg]; exact (below_size (by repeat (first | (with_reducible first | exact HB.out | apply below_alloc | apply pw_below_drewN | apply below_drew1 | refine below_set ?_ GE367.out | refine below_set ?_ GE375.out | refine below_set ?_ GE388.out) | exact HB.out))) : w.heap.size ≤ gb397))
                have n8_ := Aside0.mk ((by rw [hg]; exact (below_size (by repeat (first | (with_reducible first | exact HB.out | apply below_alloc | apply pw_below_drewN | apply below_drew1 | refine below_set ?_ GE367.out | refine below_set ?_ GE375.out | refine below_set ?_ GE388.out) | exact HB.out))) : w.heap.size ≤ gb397))
                have n9_ := Aside0.mk ((by rw [hg]; exact Nat.ne_of_lt (blk_lt (g := gb367) (o := .cells #[.int .i64 a0_0, .slice (some ad391) l0_1.length c0_1] 24 (0, 0)) (by (with_reducible repeat (first | refine blk_drewN ?_ _ | refine blk_drew ?_ | refine blk_alloc ?_ _)); exact BK367.out)) : gb367 ≠ gb397))
                have n10_ := Aside0.mk ((by rw [hg]; exact Nat.ne_of_gt (blk_lt (g := gb367) (o := .cells #[.int .i64 a0_0, .slice (some ad391) l0_1.length c0_1] 24 (0, 0)) (by (with_reducible repeat (first | refine blk_drewN ?_ _ | refine blk_drew ?_ | refine blk_alloc ?_ _)); exact BK367.out)) : gb397 ≠ gb367))
                have n11_ := Aside0.mk ((by rw [hg]; exact Nat.ne_of_lt (blk_lt (g := gb375) (o := .cells #[.int .i64 t370, .slice Ao27 t371.length co27] 24 (0, 0)) (by (with_reducible repeat (first | refine blk_drewN ?_ _ | refine blk_drew ?_ | refine blk_alloc ?_ _)); exact BK375.out)) : gb375 ≠ gb397))
                have n12_ := Aside0.mk ((by rw [hg]; exact Nat.ne_of_gt (blk_lt (g := gb375) (o := .cells #[.int .i64 t370, .slice Ao27 t371.length co27] 24 (0, 0)) (by (with_reducible repeat (first | refine blk_drewN ?_ _ | refine blk_drew ?_ | refine blk_alloc ?_ _)); exact BK375.out)) : gb397 ≠ gb375))
                have n13_ := Aside0.mk ((by rw [hg]; exact Nat.ne_of_lt (blk_lt (g := gb388) (o := .cells #[.int .i64 t383, .slice Ao54 t384.length co54] 24 (0, 0)) (by (with_reducible repeat (first | refine blk_drewN ?_ _ | refine blk_drew ?_ | refine blk_alloc ?_ _)); exact BK388.out)) : gb388 ≠ gb397))
                have n14_ := Aside0.mk ((by rw [hg]; exact Nat.ne_of_gt (blk_lt (g := gb388) (o := .cells #[.int .i64 t383, .slice Ao54 t384.length co54] 24 (0, 0)) (by (with_reducible repeat (first | refine blk_drewN ?_ _ | refine blk_drew ?_ | refine blk_alloc ?_ _)); exact BK388.out)) : gb397 ≠ gb388))
                clear HO_376001
                clear HO_389001
                clear BK367
                clear BK375
                clear BK388
                clear HB
                have HO_376001 := n0_
                have HO_389001 := n1_
                have BK367 := n2_
                have BK375 := n3_
                have BK388 := n4_
                have HB := n5_
                have BK397 := n6_
                have GW397 := n7_
                have GE397 := n8_
                have NB367_397 := n9_
                have NB397_367 := n10_
                have NB375_397 := n11_
                have NB397_375 := n12_
                have NB388_397 := n13_
                have NB397_388 := n14_
                clear n0_ n1_ n2_ n3_ n4_ n5_ n6_ n7_ n8_ n9_ n10_ n11_ n12_ n13_ n14_
                clear hb hbox hg
                refine hK.out _ _ ⟨(blk_cell BK388.out 0).trans rfl, (blk_cell BK388.out 1).trans rfl, (blk_cell BK367.out 0).trans rfl, (blk_cell BK367.out 1).trans rfl, ((HB.out.cell (World.block_lt_of_cell? w _ hw391_0)).trans hw391_0), ((HB.out.cell (World.block_lt_of_cell? w _ hw391_1)).trans hw391_1)⟩ (fun hHeld => ?_)
                clear hK K
                refine norm_ (a' := ?_) ?_ ?_
                rotate_left
                ·show Act.put _ (some 15) _ = _
                 simp only [Act.put, List.setIfInBounds_toArray, List.set_cons_zero, List.set_cons_succ, i64_w, i32_w]
                 rfl
                refine one_ (i := 8) (N := some 94) #[true, true, true, true, true, true, true, true, true, false, false, false, true, false, false] rfl rfl (one_of HT_.out (by kernel_rfl)) (by decide) (fun K hK => ?_)
                refine goes_ Try.func24 (by kernel_rfl) rfl #[.agg #[.int .i64 t383, .slice Ao54 t384.length co54], .string a1, .int .i64 ((rd_T46 l0_1 t389).f1)] (by rfl) rfl rfl (by (try simp only [List.map_toArray, List.map_cons, List.map_nil]); first | done | rfl | (simp only [List.length_drop, List.length_take]; rfl)) ?_
                with_reducible refine (atlas_Move.calls kj45 t383 _ _ t384 a1 ((rd_T46 l0_1 t389).f1) t392 t393 t396 _ ?side1 ?side2 A65.out).mono ?_
                (case side1 => repeat (first | exact (Kd.R_reads' HO_389001.out).2.2 | (with_reducible refine Kd.C_alloc ?_ _) | (with_reducible refine Kd.C_drewN ?_ _) | (with_reducible refine Kd.C_drew ?_)))
                (case side2 => exact (Kd.R_reads' HO_389001.out).2.1)
                rintro e w70 ⟨v394, rfl, ho0, hb⟩
                refine ⟨_, rfl, ?_⟩
                have n0_ := Aside0.mk (Kd.R_elder' (by (with_reducible repeat (first | apply Kd.R_alloc | apply Kd.R_drewN | apply Kd.R_drew)); exact HO_376001.out) (Kd.R_base ho0) hb)
                have n1_ := Aside0.mk (Kd.R_elder' (by (with_reducible repeat (first | apply Kd.R_alloc | apply Kd.R_drewN | apply Kd.R_drew)); exact HO_389001.out) (Kd.R_base ho0) hb)
                have n2_ := Aside0.mk (Kd.R_lower (Kd.R_new' (Kd.R_new' ho0 (Kd.R_lt (by (with_reducible repeat (first | apply Kd.R_alloc | apply Kd.R_drewN | apply Kd.R_drew)); exact HO_376001.out))) (Kd.R_lt (by (with_reducible repeat (first | apply Kd.R_alloc | apply Kd.R_drewN | apply Kd.R_drew)); exact HO_389001.out))) (below_size (by repeat (first | (with_reducible first | exact HB.out | apply below_alloc | apply pw_below_drewN | apply below_drew1 | refine below_set ?_ GE367.out | refine below_set ?_ GE375.out | refine below_set ?_ GE388.out | refine below_set ?_ GE397.out) | exact HB.out))))
                have n3_ := Aside0.mk (blk_below BK367.out hb)
                have n4_ := Aside0.mk (blk_below BK375.out hb)
                have n5_ := Aside0.mk (blk_below BK388.out hb)
                have n6_ := Aside0.mk (blk_below BK397.out hb)
                have n7_ := Aside0.mk (below_step (by repeat (first | (with_reducible first | exact HB.out | apply below_alloc | apply pw_below_drewN | apply below_drew1 | refine below_set ?_ GE367.out | refine below_set ?_ GE375.out | refine below_set ?_ GE388.out | refine below_set ?_ GE397.out) | exact HB.out)) hb)
                clear HO_376001
                clear HO_389001
                clear BK367
                clear BK375
                clear BK388
                clear BK397
                clear HB
                have HO_376001 := n0_
                have HO_389001 := n1_
                have HO395 := n2_
                have BK367 := n3_
                have BK375 := n4_
                have BK388 := n5_
                have BK397 := n6_
                have HB := n7_
                clear n0_ n1_ n2_ n3_ n4_ n5_ n6_ n7_
                (try clear hb)
                (try clear hb2)
                (try clear hk)
                (try clear hi)
                (try clear ho0)
                refine hK.out _ _ ⟨(blk_cell BK388.out 0).trans rfl, (blk_cell BK388.out 1).trans rfl, (blk_cell BK367.out 0).trans rfl, (blk_cell BK367.out 1).trans rfl, ((HB.out.cell (World.block_lt_of_cell? w _ hw391_0)).trans hw391_0), ((HB.out.cell (World.block_lt_of_cell? w _ hw391_1)).trans hw391_1)⟩ (fun hHeld => ?_)
                clear hK K
                refine norm_ (a' := ?_) ?_ ?_
                rotate_left
                ·show Act.put _ (some 94) _ = _
                 simp only [Act.put, List.setIfInBounds_toArray, List.set_cons_zero, List.set_cons_succ, i64_w, i32_w]
                 rfl
                refine pure_ (i := 9) (N := some 85) (v := ?_) (a' := ?_) #[true, true, true, true, true, true, true, true, true, true, false, false, true, false, false] rfl rfl (any_of HT_.out (by kernel_rfl)) (fun _ _ _ h => h) (Or.inl ⟨by rfl, ?_⟩) ?_ ?_
                rotate_left
                ·intro w'
                 go_simp
                 with_reducible rfl
                rotate_left
                ·simp only [Act.put, List.setIfInBounds_toArray, List.set_cons_zero, List.set_cons_succ, i64_w, i32_w]
                 rfl
                refine pure_ (i := 10) (N := some 95) (v := ?_) (a' := ?_) #[true, true, true, true, true, true, true, true, true, true, true, false, true, false, false] rfl rfl (any_of HT_.out (by kernel_rfl)) (fun _ _ _ h => h) (Or.inl ⟨by rfl, ?_⟩) ?_ ?_
                rotate_left
                ·intro w'
                 go_simp
                 with_reducible rfl
                rotate_left
                ·simp only [Act.put, List.setIfInBounds_toArray, List.set_cons_zero, List.set_cons_succ, i64_w, i32_w]
                 rfl
                refine pure_ (i := 11) (N := some 96) (v := ?_) (a' := ?_) #[true, true, true, true, true, true, true, true, true, true, true, true, true, false, false] rfl rfl (any_of HT_.out (by kernel_rfl)) (fun _ _ _ h => h) (Or.inl ⟨by rfl, ?_⟩) ?_ ?_
                rotate_left
                ·intro w'
                 go_simp
                 with_reducible rfl
                rotate_left
                ·simp only [Act.put, List.setIfInBounds_toArray, List.set_cons_zero, List.set_cons_succ, i64_w, i32_w]
                 rfl
                exact norm_ (by simp only [putAll, Act.put, List.setIfInBounds_toArray, List.set_cons_zero, List.set_cons_succ]) (hCont (v394, gb397) _ ⟨hHeld, (by (with_reducible repeat (first | apply Kd.R_alloc | apply Kd.R_drewN | apply Kd.R_drew)); exact Kd.R_mono HO395.out (fun _ hk => ⟨hk.1.2, hk.2⟩)), (by (with_reducible repeat (first | apply Kd.R_alloc | apply Kd.R_drewN | apply Kd.R_drew)); exact Kd.R_mono HO_376001.out (fun _ hk => ⟨hk.2, hk.1⟩)), (by (with_reducible repeat (first | apply Kd.R_alloc | apply Kd.R_drewN | apply Kd.R_drew)); exact Kd.R_mono HO_389001.out (fun _ hk => ⟨hk.2, hk.1⟩)), (by (with_reducible repeat (first | refine blk_drewN ?_ _ | refine blk_drew ?_ | refine blk_alloc ?_ _)); exact BK367.out), (by (with_reducible repeat (first | refine blk_drewN ?_ _ | refine blk_drew ?_ | refine blk_alloc ?_ _)); exact BK375.out), (by (with_reducible repeat (first | refine blk_drewN ?_ _ | refine blk_drew ?_ | refine blk_alloc ?_ _)); exact BK388.out), (by (with_reducible repeat (first | refine blk_drewN ?_ _ | refine blk_drew ?_ | refine blk_alloc ?_ _)); exact BK397.out), GW397.out, GE397.out, NB367_397.out, NB397_367.out, NB375_397.out, NB397_375.out, NB388_397.out, NB397_388.out, (by repeat (first | (with_reducible first | exact HB.out | apply below_alloc | apply pw_below_drewN | apply below_drew1 | refine below_set ?_ GE367.out | refine below_set ?_ GE375.out | refine below_set ?_ GE388.out | refine below_set ?_ GE397.out) | exact HB.out))⟩)
              rintro ⟨v394, gb397⟩ w71 ⟨hS_, h0_, h1_, h2_, h3_, h4_, h5_, h6_, h7_, h8_, h9_, h10_, h11_, h12_, h13_, h14_, h15_⟩
              have n0_ : Aside0 (Kd.R k46 46 w71 w.heap.size (fun k_ => some k_ ≠ (.slice Ao27 t371.length co27 : Value).ownBlock ∧ some k_ ≠ (.slice Ao54 t384.length co54 : Value).ownBlock) v394 t393) := ⟨h0_⟩
              have n1_ : Aside0 (Kd.R k46 46 w71 w.heap.size (fun k_ => some k_ ≠ (v394 : Value).ownBlock ∧ some k_ ≠ (.slice Ao54 t384.length co54 : Value).ownBlock) (.slice Ao27 t371.length co27) t371) := ⟨h1_⟩
              have n2_ : Aside0 (Kd.R k46 46 w71 w.heap.size (fun k_ => some k_ ≠ (v394 : Value).ownBlock ∧ some k_ ≠ (.slice Ao27 t371.length co27 : Value).ownBlock) (.slice Ao54 t384.length co54) t384) := ⟨h2_⟩
              have n3_ : Aside0 (w71.heap[gb367]? = some (.cells #[.int .i64 a0_0, .slice (some ad391) l0_1.length c0_1] 24 (0, 0))) := ⟨h3_⟩
              have n4_ : Aside0 (w71.heap[gb375]? = some (.cells #[.int .i64 t370, .slice Ao27 t371.length co27] 24 (0, 0))) := ⟨h4_⟩
              have n5_ : Aside0 (w71.heap[gb388]? = some (.cells #[.int .i64 t383, .slice Ao54 t384.length co54] 24 (0, 0))) := ⟨h5_⟩
              have n6_ : Aside0 (w71.heap[gb397]? = some (.cells #[.int .i64 0, .slice none 0 0] 24 (0, 0))) := ⟨h6_⟩
              have n7_ : Aside0 (w.heap.size ≤ gb397) := ⟨h7_⟩
              have n8_ : Aside0 (w.heap.size ≤ gb397) := ⟨h8_⟩
              have n9_ : Aside0 (gb367 ≠ gb397) := ⟨h9_⟩
              have n10_ : Aside0 (gb397 ≠ gb367) := ⟨h10_⟩
              have n11_ : Aside0 (gb375 ≠ gb397) := ⟨h11_⟩
              have n12_ : Aside0 (gb397 ≠ gb375) := ⟨h12_⟩
              have n13_ : Aside0 (gb388 ≠ gb397) := ⟨h13_⟩
              have n14_ : Aside0 (gb397 ≠ gb388) := ⟨h14_⟩
              have n15_ : Aside0 (Below w.heap.size w w71) := ⟨h15_⟩
              clear HO_376001
              clear HO_389001
              clear BK367
              clear BK375
              clear BK388
              clear HB
              clear h0_ h1_ h2_ h3_ h4_ h5_ h6_ h7_ h8_ h9_ h10_ h11_ h12_ h13_ h14_ h15_
              have HO395 := n0_
              have HO_376001 := n1_
              have HO_389001 := n2_
              have BK367 := n3_
              have BK375 := n4_
              have BK388 := n5_
              have BK397 := n6_
              have GW397 := n7_
              have GE397 := n8_
              have NB367_397 := n9_
              have NB397_367 := n10_
              have NB375_397 := n11_
              have NB397_375 := n12_
              have NB388_397 := n13_
              have NB397_388 := n14_
              have HB := n15_
              clear n0_ n1_ n2_ n3_ n4_ n5_ n6_ n7_ n8_ n9_ n10_ n11_ n12_ n13_ n14_ n15_
              have hHeld : w71.cell? ⟨gb388, 0, none⟩ = some (.int .i64 t383) ∧ w71.cell? ⟨gb388, 1, none⟩ = some (.slice Ao54 t384.length co54) ∧ w71.cell? ⟨gb367, 0, none⟩ = some (.int .i64 a0_0) ∧ w71.cell? ⟨gb367, 1, none⟩ = some (.slice (some ad391) l0_1.length c0_1) ∧ w71.cell? (ad391.add ((t389).toNat * 2)) = some (.string ((rd_T46 l0_1 t389).f0)) ∧ w71.cell? ⟨(ad391.add ((t389).toNat * 2)).block, (ad391.add ((t389).toNat * 2)).off + 1, none⟩ = some (.int .i64 ((rd_T46 l0_1 t389).f1)) := hS_
              obtain ⟨Ao73, co73, eo73⟩ := Kd.R_slice HO395.out
              (first | subst eo73 | (injection eo73 with f1_ f2_ f3_; have f4_ := f1_.symm; have f5_ := f3_.symm; clear f1_ f2_ f3_; subst f4_; subst f5_))
              refine norm_ (a' := ?_) ?_ ?_
              rotate_left
              ·simp only [putAll, Act.put, List.setIfInBounds_toArray, List.set_cons_zero, List.set_cons_succ]
               rfl
              refine one_ (i := 13) (N := none) #[true, true, true, true, true, true, true, true, true, true, true, true, true, true, false] rfl rfl (one_of HT_.out (by kernel_rfl)) (by decide) (fun K hK => ?_)
              have hs72 : w71.cell? ⟨gb397, 0, none⟩ = some (.int .i64 0) := (blk_cell BK397.out 0).trans rfl
              have hfs72 := blk_frozen BK397.out 0
              have hns72_0 := NB367_397.out
              have hns72_1 := NB375_397.out
              have hns72_2 := NB388_397.out
              have hms72_0 := NB397_367.out
              have hms72_1 := NB397_375.out
              have hms72_2 := NB397_388.out
              have hs74 : w71.cell? ⟨gb397, 1, none⟩ = some (.slice none 0 0) := (blk_cell BK397.out 1).trans rfl
              have hfs74 := blk_frozen BK397.out 1
              have hns74_0 := NB367_397.out
              have hns74_1 := NB375_397.out
              have hns74_2 := NB388_397.out
              have hms74_0 := NB397_367.out
              have hms74_1 := NB397_375.out
              have hms74_2 := NB397_388.out
              refine skip_ (w1 := ?_) (by rfl) rfl ?_ ?_
              rotate_left
              ·go_simp
               rfl
              refine hK.out _ _ ⟨((cell_far (p := ⟨gb397, _, none⟩) NB388_397.out _).trans (((cell_far (p := ⟨gb397, _, none⟩) NB388_397.out _).trans (hHeld.1)))), ((cell_far (p := ⟨gb397, _, none⟩) NB388_397.out _).trans (((cell_far (p := ⟨gb397, _, none⟩) NB388_397.out _).trans (hHeld.2.1)))), ((cell_far (p := ⟨gb397, _, none⟩) NB367_397.out _).trans (((cell_far (p := ⟨gb397, _, none⟩) NB367_397.out _).trans (hHeld.2.2.1)))), ((cell_far (p := ⟨gb397, _, none⟩) NB367_397.out _).trans (((cell_far (p := ⟨gb397, _, none⟩) NB367_397.out _).trans (hHeld.2.2.2.1)))), ((cell_far (p := ⟨gb397, _, none⟩) (by first | exact Nat.ne_of_lt (Nat.lt_of_lt_of_le (by have := World.block_lt_of_cell? _ _ hw391_0; first | rwa [add_block] at this | exact this) GW397.out) | (rw [add_block]; exact Nat.ne_of_lt (Nat.lt_of_lt_of_le (by have := World.block_lt_of_cell? _ _ hw391_0; first | rwa [add_block] at this | exact this) GW397.out)) | (show (Addr.add _ _).block ≠ _; rw [add_block]; exact Nat.ne_of_lt (Nat.lt_of_lt_of_le (by have := World.block_lt_of_cell? _ _ hw391_0; first | rwa [add_block] at this | exact this) GW397.out)) | (dsimp only; exact Nat.ne_of_lt (Nat.lt_of_lt_of_le (by have := World.block_lt_of_cell? _ _ hw391_0; first | rwa [add_block] at this | exact this) GW397.out))) _).trans (((cell_far (p := ⟨gb397, _, none⟩) (by first | exact Nat.ne_of_lt (Nat.lt_of_lt_of_le (by have := World.block_lt_of_cell? _ _ hw391_0; first | rwa [add_block] at this | exact this) GW397.out) | (rw [add_block]; exact Nat.ne_of_lt (Nat.lt_of_lt_of_le (by have := World.block_lt_of_cell? _ _ hw391_0; first | rwa [add_block] at this | exact this) GW397.out)) | (show (Addr.add _ _).block ≠ _; rw [add_block]; exact Nat.ne_of_lt (Nat.lt_of_lt_of_le (by have := World.block_lt_of_cell? _ _ hw391_0; first | rwa [add_block] at this | exact this) GW397.out)) | (dsimp only; exact Nat.ne_of_lt (Nat.lt_of_lt_of_le (by have := World.block_lt_of_cell? _ _ hw391_0; first | rwa [add_block] at this | exact this) GW397.out))) _).trans (hHeld.2.2.2.2.1)))), ((cell_far (p := ⟨gb397, _, none⟩) (by first | exact Nat.ne_of_lt (Nat.lt_of_lt_of_le (by have := World.block_lt_of_cell? _ _ hw391_1; first | rwa [add_block] at this | exact this) GW397.out) | (rw [add_block]; exact Nat.ne_of_lt (Nat.lt_of_lt_of_le (by have := World.block_lt_of_cell? _ _ hw391_1; first | rwa [add_block] at this | exact this) GW397.out)) | (show (Addr.add _ _).block ≠ _; rw [add_block]; exact Nat.ne_of_lt (Nat.lt_of_lt_of_le (by have := World.block_lt_of_cell? _ _ hw391_1; first | rwa [add_block] at this | exact this) GW397.out)) | (dsimp only; exact Nat.ne_of_lt (Nat.lt_of_lt_of_le (by have := World.block_lt_of_cell? _ _ hw391_1; first | rwa [add_block] at this | exact this) GW397.out))) _).trans (((cell_far (p := ⟨gb397, _, none⟩) (by first | exact Nat.ne_of_lt (Nat.lt_of_lt_of_le (by have := World.block_lt_of_cell? _ _ hw391_1; first | rwa [add_block] at this | exact this) GW397.out) | (rw [add_block]; exact Nat.ne_of_lt (Nat.lt_of_lt_of_le (by have := World.block_lt_of_cell? _ _ hw391_1; first | rwa [add_block] at this | exact this) GW397.out)) | (show (Addr.add _ _).block ≠ _; rw [add_block]; exact Nat.ne_of_lt (Nat.lt_of_lt_of_le (by have := World.block_lt_of_cell? _ _ hw391_1; first | rwa [add_block] at this | exact this) GW397.out)) | (dsimp only; exact Nat.ne_of_lt (Nat.lt_of_lt_of_le (by have := World.block_lt_of_cell? _ _ hw391_1; first | rwa [add_block] at this | exact this) GW397.out))) _).trans (hHeld.2.2.2.2.2))))⟩ (fun hHeld => ?_)
              clear hK K
              refine pure_ (i := 14) (N := some 16) (v := ?_) (a' := ?_) #[true, true, true, true, true, true, true, true, true, true, true, true, true, true, true] rfl rfl (any_of HT_.out (by kernel_rfl)) (fun _ _ _ h => h) (Or.inl ⟨by rfl, ?_⟩) ?_ ?_
              rotate_left
              ·intro w'
               go_simp
               with_reducible rfl
              rotate_left
              ·simp only [Act.put, List.setIfInBounds_toArray, List.set_cons_zero, List.set_cons_succ, i64_w, i32_w]
               rfl
              refine done_ (done_of HT_.out (by kernel_rfl)) ?_
              have hnb75 := NB367_375.out
              have hnc75 := NB375_367.out
              have hnb76 := NB367_388.out
              have hnc76 := NB388_367.out
              have hnb77 := NB367_397.out
              have hnc77 := NB397_367.out
              have hcz78_0 : w71.cell? ⟨gb367, 0, none⟩ = some (.int .i64 a0_0) := (blk_cell BK367.out 0).trans rfl
              have hcz78_1 : w71.cell? ⟨gb367, 1, none⟩ = some (.slice (some ad391) l0_1.length c0_1) := (blk_cell BK367.out 1).trans rfl
              have hfz78_0 := blk_frozen BK367.out 0
              have hfz78_1 := blk_frozen BK367.out 1
              have hnb79 := NB397_375.out
              have hnc79 := NB375_397.out
              have hnb80 := NB397_388.out
              have hnc80 := NB388_397.out
              have hcz81_0 : w71.cell? ⟨gb397, 0, none⟩ = some (.int .i64 0) := (blk_cell BK397.out 0).trans rfl
              have hcz81_1 : w71.cell? ⟨gb397, 1, none⟩ = some (.slice none 0 0) := (blk_cell BK397.out 1).trans rfl
              have hfz81_0 := blk_frozen BK397.out 0
              have hfz81_1 := blk_frozen BK397.out 1
              try go_wp2_with (first | (go_at_call 19; (with_reducible refine (shelfmarkref12_Same.calls kj45 a0_0 _ _ t393 a0_0 _ _ l0_1 t398 _ ?side1 ?side2 ?side3 ?side4 A67.out).mono ?_); (case side1 => refine (Kd.R_reads' (e := 46) (base := w.heap.size) (ok := fun k_ => (some k_ ≠ (.slice Ao27 t371.length co27 : Value).ownBlock ∧ some k_ ≠ (.slice Ao54 t384.length co54 : Value).ownBlock)) (n := t393.length) (c := co73) ?_).2.2; exact (by (with_reducible repeat (first | apply Kd.R_alloc | apply Kd.R_drewN | apply Kd.R_drew)); exact (Kd.R_mono (Kd.R_far (p := ⟨gb397, 0, none⟩) (Kd.R_far (p := ⟨gb397, 1, none⟩) (Kd.R_far (p := ⟨gb397, 0, none⟩) (Kd.R_types HO395.out BK397.out (by decide)) (fun _ hk => hk.2) (.int .i64 t392)) (fun _ hk => hk.2) (.slice Ao73 t393.length co73)) (fun _ hk => hk.2) (.int .i64 a0_0)) (fun _ h_ => h_.1)))); (case side2 => exact (Kd.R_reads' HO395.out).2.1); (case side3 => exact Kd.C_below HR0_1.out (by repeat (first | (with_reducible first | exact HB.out | apply below_alloc | apply pw_below_drewN | apply below_drew1 | refine below_set ?_ GE367.out | refine below_set ?_ GE375.out | refine below_set ?_ GE388.out | refine below_set ?_ GE397.out) | exact HB.out))); (case side4 => exact HC0_1.out); rintro e w82 ⟨rfl, hb⟩; have n0_ := Aside0.mk (Kd.R_below (by (with_reducible repeat (first | apply Kd.R_alloc | apply Kd.R_drewN | apply Kd.R_drew)); exact (Kd.R_mono (Kd.R_far (p := ⟨gb397, 0, none⟩) (Kd.R_far (p := ⟨gb397, 1, none⟩) (Kd.R_far (p := ⟨gb397, 0, none⟩) (Kd.R_types HO_376001.out BK397.out (by decide)) (fun _ hk => hk.2) (.int .i64 t392)) (fun _ hk => hk.2) (.slice Ao73 t393.length co73)) (fun _ hk => hk.2) (.int .i64 a0_0)) (fun _ h_ => h_.1))) hb); have n1_ := Aside0.mk (Kd.R_below (by (with_reducible repeat (first | apply Kd.R_alloc | apply Kd.R_drewN | apply Kd.R_drew)); exact (Kd.R_mono (Kd.R_far (p := ⟨gb397, 0, none⟩) (Kd.R_far (p := ⟨gb397, 1, none⟩) (Kd.R_far (p := ⟨gb397, 0, none⟩) (Kd.R_types HO_389001.out BK397.out (by decide)) (fun _ hk => hk.2) (.int .i64 t392)) (fun _ hk => hk.2) (.slice Ao73 t393.length co73)) (fun _ hk => hk.2) (.int .i64 a0_0)) (fun _ h_ => h_.1))) hb); have n2_ := Aside0.mk (Kd.R_below (by (with_reducible repeat (first | apply Kd.R_alloc | apply Kd.R_drewN | apply Kd.R_drew)); exact (Kd.R_mono (Kd.R_far (p := ⟨gb397, 0, none⟩) (Kd.R_far (p := ⟨gb397, 1, none⟩) (Kd.R_far (p := ⟨gb397, 0, none⟩) (Kd.R_types HO395.out BK397.out (by decide)) (fun _ hk => hk.2) (.int .i64 t392)) (fun _ hk => hk.2) (.slice Ao73 t393.length co73)) (fun _ hk => hk.2) (.int .i64 a0_0)) (fun _ h_ => h_.1))) hb); have n3_ := Aside0.mk (blk_below (g := gb367) (o := .cells #[.int .i64 a0_0, .slice (some ad391) l0_1.length c0_1] 24 (0, 0)) (by (with_reducible repeat (first | refine blk_drewN ?_ _ | refine blk_drew ?_ | refine blk_alloc ?_ _)); refine blk_far ?_ NB367_397.out _; (with_reducible repeat (first | refine blk_drewN ?_ _ | refine blk_drew ?_ | refine blk_alloc ?_ _)); refine blk_far ?_ NB367_397.out _; (with_reducible repeat (first | refine blk_drewN ?_ _ | refine blk_drew ?_ | refine blk_alloc ?_ _)); refine blk_far ?_ NB367_397.out _; (with_reducible repeat (first | refine blk_drewN ?_ _ | refine blk_drew ?_ | refine blk_alloc ?_ _)); exact BK367.out) hb); have n4_ := Aside0.mk (blk_below (g := gb375) (o := .cells #[.int .i64 t370, .slice Ao27 t371.length co27] 24 (0, 0)) (by (with_reducible repeat (first | refine blk_drewN ?_ _ | refine blk_drew ?_ | refine blk_alloc ?_ _)); refine blk_far ?_ NB375_397.out _; (with_reducible repeat (first | refine blk_drewN ?_ _ | refine blk_drew ?_ | refine blk_alloc ?_ _)); refine blk_far ?_ NB375_397.out _; (with_reducible repeat (first | refine blk_drewN ?_ _ | refine blk_drew ?_ | refine blk_alloc ?_ _)); refine blk_far ?_ NB375_397.out _; (with_reducible repeat (first | refine blk_drewN ?_ _ | refine blk_drew ?_ | refine blk_alloc ?_ _)); exact BK375.out) hb); have n5_ := Aside0.mk (blk_below (g := gb388) (o := .cells #[.int .i64 t383, .slice Ao54 t384.length co54] 24 (0, 0)) (by (with_reducible repeat (first | refine blk_drewN ?_ _ | refine blk_drew ?_ | refine blk_alloc ?_ _)); refine blk_far ?_ NB388_397.out _; (with_reducible repeat (first | refine blk_drewN ?_ _ | refine blk_drew ?_ | refine blk_alloc ?_ _)); refine blk_far ?_ NB388_397.out _; (with_reducible repeat (first | refine blk_drewN ?_ _ | refine blk_drew ?_ | refine blk_alloc ?_ _)); refine blk_far ?_ NB388_397.out _; (with_reducible repeat (first | refine blk_drewN ?_ _ | refine blk_drew ?_ | refine blk_alloc ?_ _)); exact BK388.out) hb); have n6_ := Aside0.mk (blk_below (g := gb397) (o := .cells #[.int .i64 a0_0, .slice Ao73 t393.length co73] 24 (0, 0)) (by (with_reducible repeat (first | refine blk_drewN ?_ _ | refine blk_drew ?_ | refine blk_alloc ?_ _)); refine blk_put (cs := #[.int .i64 t392, .slice Ao73 t393.length co73]) ?_ 0 _ rfl; (with_reducible repeat (first | refine blk_drewN ?_ _ | refine blk_drew ?_ | refine blk_alloc ?_ _)); refine blk_put (cs := #[.int .i64 t392, .slice none 0 0]) ?_ 1 _ rfl; (with_reducible repeat (first | refine blk_drewN ?_ _ | refine blk_drew ?_ | refine blk_alloc ?_ _)); refine blk_put (cs := #[.int .i64 0, .slice none 0 0]) ?_ 0 _ rfl; (with_reducible repeat (first | refine blk_drewN ?_ _ | refine blk_drew ?_ | refine blk_alloc ?_ _)); exact BK397.out) hb); have n7_ := Aside0.mk (below_step (by repeat (first | (with_reducible first | exact HB.out | apply below_alloc | apply pw_below_drewN | apply below_drew1 | refine below_set ?_ GE367.out | refine below_set ?_ GE375.out | refine below_set ?_ GE388.out | refine below_set ?_ GE397.out) | exact HB.out)) hb); clear HO_376001; clear HO_389001; clear HO395; clear BK367; clear BK375; clear BK388; clear BK397; clear HB; have HO_376001 := n0_; have HO_389001 := n1_; have HO395 := n2_; have BK367 := n3_; have BK375 := n4_; have BK388 := n5_; have BK397 := n6_; have HB := n7_; clear n0_ n1_ n2_ n3_ n4_ n5_ n6_ n7_; (try clear hb); (try clear hb2); (try clear hk); (try clear hi)))
              go_ret
              exact ⟨by first | rfl | (simp [errW_none, errW_some] <;> rfl) | (simp [*, errW_none, errW_some] <;> rfl), by repeat (first | (with_reducible first | exact HB.out | apply below_alloc | apply pw_below_drewN | apply below_drew1 | refine below_set ?_ GE367.out | refine below_set ?_ GE375.out | refine below_set ?_ GE388.out | refine below_set ?_ GE397.out) | exact HB.out)⟩
             ·rw [if_neg c66] at H
              have c66b0 : (t396 == 0) = false := beq_eq_false_iff_ne.mpr c66
              have c66b1 : (t396 != 0) = true := bne_iff_ne.mpr c66
              obtain rfl := Option.some.inj H
              exact absurd HLAW.out (by decide)
            ·rw [if_neg c64] at H
             exact absurd H (by simp)
           ·rw [if_neg c63] at H
            exact absurd H (by simp)
       ·rw [if_neg c44] at H
        have c44b0 : (t387 == 0) = false := beq_eq_false_iff_ne.mpr c44
        have c44b1 : (t387 != 0) = true := bne_iff_ne.mpr c44
        obtain rfl := Option.some.inj H
        simp only [Option.some.injEq, Prod.mk.injEq] at H
        obtain ⟨rfl⟩ := H
        have hnb83 := NB367_375.out
        have hnc83 := NB375_367.out
        have hcz84_0 : wc.cell? ⟨gb367, 0, none⟩ = some (.int .i64 a0_0) := (blk_cell BK367.out 0).trans rfl
        have hcz84_1 : wc.cell? ⟨gb367, 1, none⟩ = some (.slice A0_1 l0_1.length c0_1) := (blk_cell BK367.out 1).trans rfl
        have hfz84_0 := blk_frozen BK367.out 0
        have hfz84_1 := blk_frozen BK367.out 1
        go_wp2_with (first | ((with_reducible refine gate_callee (f := 24) rfl ?_); refine goesL_ (some 61) rfl rfl Try.func24 (by kernel_rfl) rfl #[.agg #[.int .i64 a0_0, .slice A0_1 l0_1.length c0_1], .string a1, .int .i64 a2] rfl (by (try simp only [List.map_toArray, List.map_cons, List.map_nil]); first | done | rfl | (simp only [List.length_drop, List.length_take]; rfl)) ?_; (with_reducible refine (atlas_Move.calls kj20 a0_0 _ _ l0_1 a1 a2 t383 t384 t387 _ ?side1 ?side2 A43.out).mono ?_); (case side1 => repeat (first | exact (Kd.C_below HR0_1.out HB.out) | (with_reducible refine Kd.C_alloc ?_ _) | (with_reducible refine Kd.C_drewN ?_ _) | (with_reducible refine Kd.C_drew ?_))); (case side2 => exact HC0_1.out); rintro e w85 ⟨v385, rfl, ho0, hb⟩; refine ⟨_, rfl, ?_⟩; have n0_ := Aside0.mk (Kd.R_elder' (by (with_reducible repeat (first | apply Kd.R_alloc | apply Kd.R_drewN | apply Kd.R_drew)); exact HO_376001.out) (Kd.R_base ho0) hb); have n1_ := Aside0.mk (Kd.R_lower (Kd.R_new' ho0 (Kd.R_lt (by (with_reducible repeat (first | apply Kd.R_alloc | apply Kd.R_drewN | apply Kd.R_drew)); exact HO_376001.out))) (below_size (by repeat (first | (with_reducible first | exact HB.out | apply below_alloc | apply pw_below_drewN | apply below_drew1 | refine below_set ?_ GE367.out | refine below_set ?_ GE375.out) | exact HB.out)))); have n2_ := Aside0.mk (blk_below BK367.out hb); have n3_ := Aside0.mk (blk_below BK375.out hb); have n4_ := Aside0.mk (below_step (by repeat (first | (with_reducible first | exact HB.out | apply below_alloc | apply pw_below_drewN | apply below_drew1 | refine below_set ?_ GE367.out | refine below_set ?_ GE375.out) | exact HB.out)) hb); clear HO_376001; clear BK367; clear BK375; clear HB; have HO_376001 := n0_; have HO386 := n1_; have BK367 := n2_; have BK375 := n3_; have HB := n4_; clear n0_ n1_ n2_ n3_ n4_; (try clear hb); (try clear hb2); (try clear hk); (try clear hi); (try clear ho0)) | ((with_reducible refine gate_dst (N := 11) rfl ?_); (try (refine gate_guard (by rfl) ?_; dsimp only)); refine box_event ?hg (N := 11) ?hd (cs := #[.int .i64 0, .slice none 0 0]) (t := 24) ?hr ?_; (case hd => rfl); (case hg => rfl); (case hr => first | (go_simp; done) | (go_simp; rfl)); intro gb388 hg w86 hbox hb; have n0_ := Aside0.mk (Kd.R_below (by (with_reducible repeat (first | apply Kd.R_alloc | apply Kd.R_drewN | apply Kd.R_drew)); exact HO_376001.out) hb); have n1_ := Aside0.mk (Kd.R_below (by (with_reducible repeat (first | apply Kd.R_alloc | apply Kd.R_drewN | apply Kd.R_drew)); exact HO386.out) hb); have n2_ := Aside0.mk (blk_below BK367.out hb); have n3_ := Aside0.mk (blk_below BK375.out hb); have n4_ := Aside0.mk (below_step (by repeat (first | (with_reducible first | exact HB.out | apply below_alloc | apply pw_below_drewN | apply below_drew1 | refine below_set ?_ GE367.out | refine below_set ?_ GE375.out) | exact HB.out)) hb); have n5_ := Aside0.mk (hbox); have n6_ := Aside0.mk ((by rw [hg]; exact (below_size (by repeat (first | (with_reducible first | exact HB.out | apply below_alloc | apply pw_below_drewN | apply below_drew1 | refine below_set ?_ GE367.out | refine below_set ?_ GE375.out) | exact HB.out))) : w.heap.size ≤ gb388)); have n7_ := Aside0.mk ((by rw [hg]; exact (below_size (by repeat (first | (with_reducible first | exact HB.out | apply below_alloc | apply pw_below_drewN | apply below_drew1 | refine below_set ?_ GE367.out | refine below_set ?_ GE375.out) | exact HB.out))) : w.heap.size ≤ gb388)); have n8_ := Aside0.mk ((by rw [hg]; exact Nat.ne_of_lt (blk_lt (g := gb367) (o := .cells #[.int .i64 a0_0, .slice A0_1 l0_1.length c0_1] 24 (0, 0)) (by (with_reducible repeat (first | refine blk_drewN ?_ _ | refine blk_drew ?_ | refine blk_alloc ?_ _)); exact BK367.out)) : gb367 ≠ gb388)); have n9_ := Aside0.mk ((by rw [hg]; exact Nat.ne_of_gt (blk_lt (g := gb367) (o := .cells #[.int .i64 a0_0, .slice A0_1 l0_1.length c0_1] 24 (0, 0)) (by (with_reducible repeat (first | refine blk_drewN ?_ _ | refine blk_drew ?_ | refine blk_alloc ?_ _)); exact BK367.out)) : gb388 ≠ gb367)); have n10_ := Aside0.mk ((by rw [hg]; exact Nat.ne_of_lt (blk_lt (g := gb375) (o := .cells #[.int .i64 t370, .slice Ao27 t371.length co27] 24 (0, 0)) (by (with_reducible repeat (first | refine blk_drewN ?_ _ | refine blk_drew ?_ | refine blk_alloc ?_ _)); exact BK375.out)) : gb375 ≠ gb388)); have n11_ := Aside0.mk ((by rw [hg]; exact Nat.ne_of_gt (blk_lt (g := gb375) (o := .cells #[.int .i64 t370, .slice Ao27 t371.length co27] 24 (0, 0)) (by (with_reducible repeat (first | refine blk_drewN ?_ _ | refine blk_drew ?_ | refine blk_alloc ?_ _)); exact BK375.out)) : gb388 ≠ gb375)); clear HO_376001; clear HO386; clear BK367; clear BK375; clear HB; have HO_376001 := n0_; have HO386 := n1_; have BK367 := n2_; have BK375 := n3_; have HB := n4_; have BK388 := n5_; have GW388 := n6_; have GE388 := n7_; have NB367_388 := n8_; have NB388_367 := n9_; have NB375_388 := n10_; have NB388_375 := n11_; clear n0_ n1_ n2_ n3_ n4_ n5_ n6_ n7_ n8_ n9_ n10_ n11_; clear hb hbox hg; have hnb87 := NB388_367.out; have hnc87 := NB367_388.out; have hnb88 := NB388_375.out; have hnc88 := NB375_388.out; have hcz89_0 : w86.cell? ⟨gb388, 0, none⟩ = some (.int .i64 0) := (blk_cell BK388.out 0).trans rfl; have hcz89_1 : w86.cell? ⟨gb388, 1, none⟩ = some (.slice none 0 0) := (blk_cell BK388.out 1).trans rfl; have hfz89_0 := blk_frozen BK388.out 0; have hfz89_1 := blk_frozen BK388.out 1; obtain ⟨Ao90, co90, eo90⟩ := Kd.R_slice HO386.out; subst eo90))
        go_ret
        exact ⟨by first | rfl | (simp [errW_none, errW_some] <;> rfl) | (simp [*, errW_none, errW_some] <;> rfl), by repeat (first | (with_reducible first | exact HB.out | apply below_alloc | apply pw_below_drewN | apply below_drew1 | refine below_set ?_ GE367.out | refine below_set ?_ GE375.out | refine below_set ?_ GE388.out) | exact HB.out)⟩
 ·replace c5 := Bool.eq_false_iff.mpr c5
  subst c5
  have H1 : (some false) = some r := by rw [if_neg (show ¬ (false = true) by decide)] at H; exact H
  clear H
  have H := H1
  clear H1
  obtain rfl := Option.some.inj H
  exact absurd HLAW.out (by decide)

end Go.Proofs.Ytmgjccpolkhhhaa.PAll
