-- Written by a program of this session for this claim (mp.py, over the kit's print); Lean checks it.
import Derived.Test.YtmgjccpolkhhhaaPAllx0
import Derived.Test.YtmgjccpolkhhhaaPAllx11
import Derived.Test.YtmgjccpolkhhhaaPAllx13
namespace Go.Proofs.Ytmgjccpolkhhhaa.PAll
open Go.RowKit Go.Proofs.YtmgjccpolkhhhaaW.PrintWords Go.Proofs.YtmgjccpolkhhhaaW.PrintLast Go.Proofs.YtmgjccpolkhhhaaW.PrintMore Go.Proofs.Ytmgjccpolkhhhaa.Fv Go.Proofs.Ytmgjccpolkhhhaa.Hl
attribute [local go_sem] max2_int min2_int max_two min_two max_three min_three max_four min_four str_gtr str_leq str_geq cell_set2   -- for this text's walks alone
set_option linter.unusedVariables false
set_option linter.unusedSimpArgs false

/-! ### shelfmarkref12_Move: function 33 -/
mutual
def shelfmarkref12_Move.j0 : Nat → Int → Int → Bool → Int → List (S46) → Option (Int × (List (S46)) × Int)
 | 0, _, _, _, _, _ => none
 | k + 1, x2, x9, x41, x318000, x318001 => if x41 = true then (some (0, ([] : List (S46)), 14)) else (if x318000 = 1099511627776 then (some (0, ([] : List (S46)), 4)) else (shelfmarkref12_Move.l0 k x2 x9 0 x318000 x318001 (wrap64 (x318000 + 1)) ([] : List (S46))))
def shelfmarkref12_Move.l0 : Nat → Int → Int → Int → Int → List (S46) → Int → List (S46) → Option (Int × (List (S46)) × Int)
 | 0, _, _, _, _, _, _, _ => none
 | k + 1, x2, x9, x12, x318000, x318001, x324000, x324001 => if x12 < (x318001.length : Int) then (if 0 ≤ x12 then (if x12 = x9 then (if x324001.length < 5864062014805 then (shelfmarkref12_Move.l0 k x2 x9 (wrap64 (x12 + 1)) x318000 x318001 x324000 (x324001 ++ [(⟨(rd_T46 x318001 x12).f0, x2⟩ : S46)])) else (none)) else (if x324001.length < 5864062014805 then (shelfmarkref12_Move.l0 k x2 x9 (wrap64 (x12 + 1)) x318000 x318001 x324000 (x324001 ++ [(⟨(rd_T46 x318001 x12).f0, (rd_T46 x318001 x12).f1⟩ : S46)])) else (none))) else (none)) else (some (x324000, x324001, 0))
end
def shelfmarkref12_Move.f (k : Nat) (a0_0 : Int) (l0_1 : List (S46)) (a1 : ByteArray) (a2 : Int) : Option (Int × (List (S46)) × Int) := (shelfmarkref12_Check.f k a0_0 l0_1).bind fun t319 => (if t319 = 0 then ((shelfmarkref12_Find.f k a0_0 l0_1 a1).bind fun bt320 => (if a2 < 1 then (shelfmarkref12_Move.j0 k a2 bt320.1 true a0_0 l0_1) else (if a2 > 4 then (shelfmarkref12_Move.j0 k a2 bt320.1 true a0_0 l0_1) else (if 0 ≤ bt320.1 then (if bt320.1 < (l0_1.length : Int) then (shelfmarkref12_Move.j0 k a2 bt320.1 (((rd_T46 l0_1 bt320.1).f1) == a2) a0_0 l0_1) else (none)) else (none))))) else (some (0, ([] : List (S46)), t319)))
theorem shelfmarkref12_Move.mono_l : ∀ k, (∀ y0 y1 y2 y3 y4, LeO (shelfmarkref12_Move.j0 k y0 y1 y2 y3 y4) (shelfmarkref12_Move.j0 (k + 1) y0 y1 y2 y3 y4)) ∧ (∀ y0 y1 y2 y3 y4 y5 y6, LeO (shelfmarkref12_Move.l0 k y0 y1 y2 y3 y4 y5 y6) (shelfmarkref12_Move.l0 (k + 1) y0 y1 y2 y3 y4 y5 y6))
 | 0 => ⟨fun _ _ _ _ _ r h => by simp [shelfmarkref12_Move.j0] at h, fun _ _ _ _ _ _ _ r h => by simp [shelfmarkref12_Move.l0] at h⟩
 | k + 1 => by
  obtain ⟨ih0, ih1⟩ := shelfmarkref12_Move.mono_l k
  refine ⟨?_, ?_⟩
  ·intro y0 y1 y2 y3 y4
   unfold shelfmarkref12_Move.j0
   repeat' first
   | (with_reducible exact ih0 _ _ _ _ _)
   | (with_reducible exact ih1 _ _ _ _ _ _ _)
   | (with_reducible exact shelfmarkref12_Check.mono _ _ _)
   | (with_reducible exact shelfmarkref12_Find.mono _ _ _ _)
   | (with_reducible exact LeO.refl _)
   | (with_reducible exact LeO.none _)
   | (with_reducible refine LeO.ite ?_ ?_)
   | (with_reducible refine LeO.bind ?_ (fun _ => ?_))
   | exact ih0 _ _ _ _ _
   | exact ih1 _ _ _ _ _ _ _
   | exact shelfmarkref12_Check.mono _ _ _
   | exact shelfmarkref12_Find.mono _ _ _ _
   | exact LeO.none _
   | refine LeO.ite ?_ ?_
   | refine LeO.bind ?_ (fun _ => ?_)
  ·intro y0 y1 y2 y3 y4 y5 y6
   unfold shelfmarkref12_Move.l0
   repeat' first
   | (with_reducible exact ih0 _ _ _ _ _)
   | (with_reducible exact ih1 _ _ _ _ _ _ _)
   | (with_reducible exact shelfmarkref12_Check.mono _ _ _)
   | (with_reducible exact shelfmarkref12_Find.mono _ _ _ _)
   | (with_reducible exact LeO.refl _)
   | (with_reducible exact LeO.none _)
   | (with_reducible refine LeO.ite ?_ ?_)
   | (with_reducible refine LeO.bind ?_ (fun _ => ?_))
   | exact ih0 _ _ _ _ _
   | exact ih1 _ _ _ _ _ _ _
   | exact shelfmarkref12_Check.mono _ _ _
   | exact shelfmarkref12_Find.mono _ _ _ _
   | exact LeO.none _
   | refine LeO.ite ?_ ?_
   | refine LeO.bind ?_ (fun _ => ?_)
theorem shelfmarkref12_Move.mono : ∀ a0 a1 a2 a3 k, LeO (shelfmarkref12_Move.f k a0 a1 a2 a3) (shelfmarkref12_Move.f (k + 1) a0 a1 a2 a3) := by
 intro a0 a1 a2 a3 k
 obtain ⟨ih0, ih1⟩ := shelfmarkref12_Move.mono_l k
 unfold shelfmarkref12_Move.f
 repeat' first
   | (with_reducible exact ih0 _ _ _ _ _)
   | (with_reducible exact ih1 _ _ _ _ _ _ _)
   | (with_reducible exact shelfmarkref12_Check.mono _ _ _)
   | (with_reducible exact shelfmarkref12_Find.mono _ _ _ _)
   | (with_reducible exact LeO.refl _)
   | (with_reducible exact LeO.none _)
   | (with_reducible refine LeO.ite ?_ ?_)
   | (with_reducible refine LeO.bind ?_ (fun _ => ?_))
   | exact ih0 _ _ _ _ _
   | exact ih1 _ _ _ _ _ _ _
   | exact shelfmarkref12_Check.mono _ _ _
   | exact shelfmarkref12_Find.mono _ _ _ _
   | exact LeO.none _
   | refine LeO.ite ?_ ?_
   | refine LeO.bind ?_ (fun _ => ?_)
set_option maxHeartbeats 8000000 in
set_option maxRecDepth 100000 in
theorem shelfmarkref12_Move.calls (k : Nat) (a0_0 : Int) (A0_1 : Option Addr) (c0_1 : Nat) (l0_1 : List (S46)) (a1 : ByteArray) (a2 : Int) (r1 : Int) (r2 : List (S46)) (r3 : Int) (w : World) (hr0_1 : Kd.C k46 w A0_1 l0_1.length l0_1) (hc0_1 : l0_1.length ≤ c0_1) (h : shelfmarkref12_Move.f k a0_0 l0_1 a1 a2 = some (r1, r2, r3)) :
  Calls Try.prog 33 #[.agg #[.int .i64 a0_0, .slice A0_1 l0_1.length c0_1], .string a1, .int .i64 a2] w fun e w' => ∃ v1_ : Value, e = .returned (.tuple #[.agg #[.int .i64 r1, v1_], .int .i64 r3]) ∧ Kd.R k46 46 w' w.heap.size (fun _ => True) v1_ r2 ∧ Below w.heap.size w w' := by
 have hu24 := Try.underlying24
 have hu46 := Try.underlying46
 have HR0_1 := Aside0.mk hr0_1
 have HC0_1 := Aside0.mk hc0_1
 clear hr0_1 hc0_1
 have HB := Aside0.mk (Below.refl w.heap.size w)
 have H : ((shelfmarkref12_Check.f k a0_0 l0_1).bind fun t319 => (if t319 = 0 then ((shelfmarkref12_Find.f k a0_0 l0_1 a1).bind fun bt320 => (if a2 < 1 then (shelfmarkref12_Move.j0 k a2 bt320.1 true a0_0 l0_1) else (if a2 > 4 then (shelfmarkref12_Move.j0 k a2 bt320.1 true a0_0 l0_1) else (if 0 ≤ bt320.1 then (if bt320.1 < (l0_1.length : Int) then (shelfmarkref12_Move.j0 k a2 bt320.1 (((rd_T46 l0_1 bt320.1).f1) == a2) a0_0 l0_1) else (none)) else (none))))) else (some (0, ([] : List (S46)), t319)))) = some (r1, r2, r3) := h
 clear h
 replace H := Option.bind_eq_some_iff.mp H
 obtain ⟨t319, A40, H⟩ := H
 replace H : (if t319 = 0 then ((shelfmarkref12_Find.f k a0_0 l0_1 a1).bind fun bt320 => (if a2 < 1 then (shelfmarkref12_Move.j0 k a2 bt320.1 true a0_0 l0_1) else (if a2 > 4 then (shelfmarkref12_Move.j0 k a2 bt320.1 true a0_0 l0_1) else (if 0 ≤ bt320.1 then (if bt320.1 < (l0_1.length : Int) then (shelfmarkref12_Move.j0 k a2 bt320.1 (((rd_T46 l0_1 bt320.1).f1) == a2) a0_0 l0_1) else (none)) else (none))))) else (some (0, ([] : List (S46)), t319))) = some (r1, r2, r3) := H
 have A4 := Aside0.mk A40
 clear A40
 by_cases c5 : t319 = 0
 ·rw [if_pos c5] at H
  have c5b0 : (t319 == 0) = true := beq_iff_eq.mpr c5
  have c5b1 : (t319 != 0) = false := bne_eq_false_iff_eq.mpr c5
  clear c5
  replace H := Option.bind_eq_some_iff.mp H
  obtain ⟨⟨t320, t321⟩, A60, H⟩ := H
  replace H : (if a2 < 1 then (shelfmarkref12_Move.j0 k a2 t320 true a0_0 l0_1) else (if a2 > 4 then (shelfmarkref12_Move.j0 k a2 t320 true a0_0 l0_1) else (if 0 ≤ t320 then (if t320 < (l0_1.length : Int) then (shelfmarkref12_Move.j0 k a2 t320 (((rd_T46 l0_1 t320).f1) == a2) a0_0 l0_1) else (none)) else (none)))) = some (r1, r2, r3) := H
  have A6 := Aside0.mk A60
  clear A60
  have HC7 := Aside0.mk H
  clear H
  go_enter Try.func33, Try.ntmps33
  go_upto_region 5 with (first | ((with_reducible refine gate_dst (N := 3) rfl ?_); refine box_event ?hg (N := 3) ?hd (cs := #[.int .i64 a0_0, .slice A0_1 l0_1.length c0_1]) (t := 24) ?hr ?_; (case hd => rfl); (case hg => rfl); (case hr => first | (go_simp; done) | (go_simp; rfl)); intro gb317 hg w8 hbox hb; have n0_ := Aside0.mk (below_step (by repeat (first | (with_reducible first | exact HB.out | apply below_alloc | apply pw_below_drewN | apply below_drew1) | exact HB.out)) hb); have n1_ := Aside0.mk (hbox); have n2_ := Aside0.mk ((by rw [hg]; exact (below_size (by repeat (first | (with_reducible first | exact HB.out | apply below_alloc | apply pw_below_drewN | apply below_drew1) | exact HB.out))) : w.heap.size ≤ gb317)); have n3_ := Aside0.mk ((by rw [hg]; exact (below_size (by repeat (first | (with_reducible first | exact HB.out | apply below_alloc | apply pw_below_drewN | apply below_drew1) | exact HB.out))) : w.heap.size ≤ gb317)); clear HB; have HB := n0_; have BK317 := n1_; have GW317 := n2_; have GE317 := n3_; clear n0_ n1_ n2_ n3_; clear hb hbox hg) | ((with_reducible refine gate_dst (N := 6) rfl ?_); refine box_event ?hg (N := 6) ?hd (cs := #[.int .i64 0, .slice none 0 0]) (t := 24) ?hr ?_; (case hd => rfl); (case hg => rfl); (case hr => first | (go_simp; done) | (go_simp; rfl)); intro gb318 hg w9 hbox hb; have n0_ := Aside0.mk (blk_below BK317.out hb); have n1_ := Aside0.mk (below_step (by repeat (first | (with_reducible first | exact HB.out | apply below_alloc | apply pw_below_drewN | apply below_drew1 | refine below_set ?_ GE317.out) | exact HB.out)) hb); have n2_ := Aside0.mk (hbox); have n3_ := Aside0.mk ((by rw [hg]; exact (below_size (by repeat (first | (with_reducible first | exact HB.out | apply below_alloc | apply pw_below_drewN | apply below_drew1 | refine below_set ?_ GE317.out) | exact HB.out))) : w.heap.size ≤ gb318)); have n4_ := Aside0.mk ((by rw [hg]; exact (below_size (by repeat (first | (with_reducible first | exact HB.out | apply below_alloc | apply pw_below_drewN | apply below_drew1 | refine below_set ?_ GE317.out) | exact HB.out))) : w.heap.size ≤ gb318)); have n5_ := Aside0.mk ((by rw [hg]; exact Nat.ne_of_lt (blk_lt (g := gb317) (o := .cells #[.int .i64 a0_0, .slice A0_1 l0_1.length c0_1] 24 (0, 0)) (by (with_reducible repeat (first | refine blk_drewN ?_ _ | refine blk_drew ?_ | refine blk_alloc ?_ _)); exact BK317.out)) : gb317 ≠ gb318)); have n6_ := Aside0.mk ((by rw [hg]; exact Nat.ne_of_gt (blk_lt (g := gb317) (o := .cells #[.int .i64 a0_0, .slice A0_1 l0_1.length c0_1] 24 (0, 0)) (by (with_reducible repeat (first | refine blk_drewN ?_ _ | refine blk_drew ?_ | refine blk_alloc ?_ _)); exact BK317.out)) : gb318 ≠ gb317)); clear BK317; clear HB; have BK317 := n0_; have HB := n1_; have BK318 := n2_; have GW318 := n3_; have GE318 := n4_; have NB317_318 := n5_; have NB318_317 := n6_; clear n0_ n1_ n2_ n3_ n4_ n5_ n6_; clear hb hbox hg; have hnb10 := NB317_318.out; have hnc10 := NB318_317.out; have hcz11_0 : w9.cell? ⟨gb317, 0, none⟩ = some (.int .i64 a0_0) := (blk_cell BK317.out 0).trans rfl; have hcz11_1 : w9.cell? ⟨gb317, 1, none⟩ = some (.slice A0_1 l0_1.length c0_1) := (blk_cell BK317.out 1).trans rfl; have hfz11_0 := blk_frozen BK317.out 0; have hfz11_1 := blk_frozen BK317.out 1) | ((with_reducible refine gate_callee (f := 18) rfl ?_); refine goesL_ (some 15) rfl rfl Try.func18 (by kernel_rfl) rfl #[.agg #[.int .i64 a0_0, .slice A0_1 l0_1.length c0_1]] rfl (by (try simp only [List.map_toArray, List.map_cons, List.map_nil]); first | done | rfl | (simp only [List.length_drop, List.length_take]; rfl)) ?_; (with_reducible refine (shelfmarkref12_Check.calls k a0_0 _ _ l0_1 t319 _ ?side1 ?side2 A4.out).mono ?_); (case side1 => repeat (first | exact (Kd.C_below HR0_1.out HB.out) | (with_reducible refine Kd.C_alloc ?_ _) | (with_reducible refine Kd.C_drewN ?_ _) | (with_reducible refine Kd.C_drew ?_))); (case side2 => exact HC0_1.out); rintro e w12 ⟨rfl, hb⟩; refine ⟨_, rfl, ?_⟩; have n0_ := Aside0.mk (blk_below BK317.out hb); have n1_ := Aside0.mk (blk_below BK318.out hb); have n2_ := Aside0.mk (below_step (by repeat (first | (with_reducible first | exact HB.out | apply below_alloc | apply pw_below_drewN | apply below_drew1 | refine below_set ?_ GE317.out | refine below_set ?_ GE318.out) | exact HB.out)) hb); clear BK317; clear BK318; clear HB; have BK317 := n0_; have BK318 := n1_; have HB := n2_; clear n0_ n1_ n2_; (try clear hb); (try clear hb2); (try clear hk); (try clear hi); have hcz13_0 : w12.cell? ⟨gb317, 0, none⟩ = some (.int .i64 a0_0) := (blk_cell BK317.out 0).trans rfl; have hcz13_1 : w12.cell? ⟨gb317, 1, none⟩ = some (.slice A0_1 l0_1.length c0_1) := (blk_cell BK317.out 1).trans rfl; have hfz13_0 := blk_frozen BK317.out 0; have hfz13_1 := blk_frozen BK317.out 1) | ((with_reducible refine gate_callee (f := 12) rfl ?_); refine goesL_ (some 23) rfl rfl Try.func12 (by kernel_rfl) rfl #[.agg #[.int .i64 a0_0, .slice A0_1 l0_1.length c0_1], .string a1] rfl (by (try simp only [List.map_toArray, List.map_cons, List.map_nil]); first | done | rfl | (simp only [List.length_drop, List.length_take]; rfl)) ?_; (with_reducible refine (shelfmarkref12_Find.calls k a0_0 _ _ l0_1 a1 t320 t321 _ ?side1 ?side2 A6.out).mono ?_); (case side1 => repeat (first | exact (Kd.C_below HR0_1.out HB.out) | (with_reducible refine Kd.C_alloc ?_ _) | (with_reducible refine Kd.C_drewN ?_ _) | (with_reducible refine Kd.C_drew ?_))); (case side2 => exact HC0_1.out); rintro e w14 ⟨rfl, hb⟩; refine ⟨_, rfl, ?_⟩; have n0_ := Aside0.mk (blk_below BK317.out hb); have n1_ := Aside0.mk (blk_below BK318.out hb); have n2_ := Aside0.mk (below_step (by repeat (first | (with_reducible first | exact HB.out | apply below_alloc | apply pw_below_drewN | apply below_drew1 | refine below_set ?_ GE317.out | refine below_set ?_ GE318.out) | exact HB.out)) hb); clear BK317; clear BK318; clear HB; have BK317 := n0_; have BK318 := n1_; have HB := n2_; clear n0_ n1_ n2_; (try clear hb); (try clear hb2); (try clear hk); (try clear hi)))
  (try simp only [Act.put, List.setIfInBounds_toArray, List.set_cons_zero, List.set_cons_succ])
  go_cut [41] (fun v41 wc => ∃ (kq : Nat) (x41_6 : Bool), v41 = .bool x41_6 ∧ Aside0 (shelfmarkref12_Move.j0 kq a2 t320 x41_6 a0_0 l0_1 = some (r1, r2, r3)) ∧ Aside0 (kq ≤ k) ∧ Aside0 (wc.heap[gb317]? = some (.cells #[.int .i64 a0_0, (.slice A0_1 l0_1.length c0_1)] 24 (0, 0))) ∧ Aside0 (wc.heap[gb318]? = some (.cells #[.int .i64 0, (.slice none 0 0)] 24 (0, 0))) ∧ Aside0 (Below w.heap.size w wc))
  case first =>
   have H := HC7.out
   clear HC7
   by_cases c15 : a2 < 1
   ·rw [if_pos c15] at H
    have c15b0 : decide (a2 < 1) = true := decide_eq_true c15
    clear c15
    (first | rw [c15b0] | (simp only [i64_w, i32_w]; rw [c15b0]) | skip)
    have H' := Aside0.mk H
    clear H
    go_wp2
    go_meet
    case rel => exact ⟨_, (true), (by first | rfl | (simp; done) | (simp [*]; done) | (simp [ne_nil_bytes]; done) | (simp [eq_nil_bytes]; done)), H', ⟨by first | omega | exact Nat.le_refl _⟩, ⟨by (with_reducible repeat (first | refine blk_drewN ?_ _ | refine blk_drew ?_ | refine blk_alloc ?_ _)); exact BK317.out⟩, ⟨by (with_reducible repeat (first | refine blk_drewN ?_ _ | refine blk_drew ?_ | refine blk_alloc ?_ _)); exact BK318.out⟩, ⟨by repeat (first | (with_reducible first | exact HB.out | apply below_alloc | apply pw_below_drewN | apply below_drew1 | refine below_set ?_ GE317.out | refine below_set ?_ GE318.out) | exact HB.out)⟩⟩
   ·rw [if_neg c15] at H
    have c15b0 : decide (a2 < 1) = false := decide_eq_false c15
    clear c15
    (first | rw [c15b0] | (simp only [i64_w, i32_w]; rw [c15b0]) | skip)
    by_cases c16 : a2 > 4
    ·rw [if_pos c16] at H
     have c16b0 : decide (4 < a2) = true := decide_eq_true c16
     clear c16
     have H' := Aside0.mk H
     clear H
     go_wp2
     go_meet
     case rel => exact ⟨_, (true), (by first | rfl | (simp; done) | (simp [*]; done) | (simp [ne_nil_bytes]; done) | (simp [eq_nil_bytes]; done)), H', ⟨by first | omega | exact Nat.le_refl _⟩, ⟨by (with_reducible repeat (first | refine blk_drewN ?_ _ | refine blk_drew ?_ | refine blk_alloc ?_ _)); exact BK317.out⟩, ⟨by (with_reducible repeat (first | refine blk_drewN ?_ _ | refine blk_drew ?_ | refine blk_alloc ?_ _)); exact BK318.out⟩, ⟨by repeat (first | (with_reducible first | exact HB.out | apply below_alloc | apply pw_below_drewN | apply below_drew1 | refine below_set ?_ GE317.out | refine below_set ?_ GE318.out) | exact HB.out)⟩⟩
    ·rw [if_neg c16] at H
     have c16b0 : decide (4 < a2) = false := decide_eq_false c16
     clear c16
     by_cases c17 : 0 ≤ t320
     ·rw [if_pos c17] at H
      have c17b0 : decide (0 ≤ t320) = true := decide_eq_true c17
      clear c17
      by_cases c18 : t320 < (l0_1.length : Int)
      ·rw [if_pos c18] at H
       have c18b0 : decide (t320 < (l0_1.length : Int)) = true := decide_eq_true c18
       clear c18
       have H' := Aside0.mk H
       clear H
       have hnb19 := NB317_318.out
       have hnc19 := NB318_317.out
       have hcz20_0 : w14.cell? ⟨gb317, 0, none⟩ = some (.int .i64 a0_0) := (blk_cell BK317.out 0).trans rfl
       have hcz20_1 : w14.cell? ⟨gb317, 1, none⟩ = some (.slice A0_1 l0_1.length c0_1) := (blk_cell BK317.out 1).trans rfl
       have hfz20_0 := blk_frozen BK317.out 0
       have hfz20_1 := blk_frozen BK317.out 1
       have p322 : 0 ≤ (t320 : Int) := of_decide_eq_true (by first | (with_reducible assumption) | assumption)
       have q322 : t320 < (l0_1.length : Int) := of_decide_eq_true (by first | (with_reducible assumption) | assumption)
       obtain ⟨ad322, e322, hx322_0, hx322_1⟩ := at_T46 HR0_1.out t320 p322 q322
       cases e322
       replace hx322_0 := (HB.out.cell (World.block_lt_of_cell? w _ hx322_0)).trans hx322_0
       replace hx322_1 := (HB.out.cell (World.block_lt_of_cell? w _ hx322_1)).trans hx322_1
       replace p322 := eq_true p322
       replace q322 := eq_true q322
       go_wp2
       go_meet
       case rel => exact ⟨_, ((((rd_T46 l0_1 t320).f1) == a2)), (by first | rfl | (simp; done) | (simp [*]; done) | (simp [ne_nil_bytes]; done) | (simp [eq_nil_bytes]; done)), H', ⟨by first | omega | exact Nat.le_refl _⟩, ⟨by (with_reducible repeat (first | refine blk_drewN ?_ _ | refine blk_drew ?_ | refine blk_alloc ?_ _)); exact BK317.out⟩, ⟨by (with_reducible repeat (first | refine blk_drewN ?_ _ | refine blk_drew ?_ | refine blk_alloc ?_ _)); exact BK318.out⟩, ⟨by repeat (first | (with_reducible first | exact HB.out | apply below_alloc | apply pw_below_drewN | apply below_drew1 | refine below_set ?_ GE317.out | refine below_set ?_ GE318.out) | exact HB.out)⟩⟩
      ·rw [if_neg c18] at H
       exact absurd H (by simp)
     ·rw [if_neg c17] at H
      exact absurd H (by simp)
  case rest =>
   clear HC7
   try clear c1
   try clear p2
   try clear c3
   try clear p3
   try clear q3
   try clear hx3
   try clear c5
   try clear c5b0
   try clear c5b0z
   try clear c5b1
   try clear c5b1z
   try clear c10
   try clear c12
   try clear c15
   try clear c15b0
   try clear c15b0z
   try clear c16
   try clear c16b0
   try clear c16b0z
   try clear c17
   try clear c17b0
   try clear c17b0z
   try clear c18
   try clear c18b0
   try clear c18b0z
   try clear c19
   try clear hcz11_0
   try clear hcz11_1
   try clear hcz13_0
   try clear hcz13_1
   try clear hcz20_0
   try clear hcz20_1
   try clear hfz11_0
   try clear hfz11_1
   try clear hfz13_0
   try clear hfz13_1
   try clear hfz20_0
   try clear hfz20_1
   try clear hx322_0
   try clear hx322_1
   try clear p322
   try clear q322
   obtain ⟨kq, x41_6, rfl, HA, HJ6, BK317, BK318, HB⟩ := hcut
   cases kq with
   | zero => exact absurd HA.out (by simp [shelfmarkref12_Move.j0])
   | succ kj6 =>
    have H := HA.out
    clear HA
    simp only [shelfmarkref12_Move.j0] at H
    by_cases c21 : x41_6 = true
    ·subst c21
     have H1 : (some (0, ([] : List (S46)), 14)) = some (r1, r2, r3) := by rw [if_pos rfl] at H; exact H
     clear H
     have H := H1
     clear H1
     simp only [Option.some.injEq, Prod.mk.injEq] at H
     obtain ⟨rfl, rfl, rfl⟩ := H
     have hnb22 := NB318_317.out
     have hnc22 := NB317_318.out
     have hcz23_0 : wc.cell? ⟨gb318, 0, none⟩ = some (.int .i64 0) := (blk_cell BK318.out 0).trans rfl
     have hcz23_1 : wc.cell? ⟨gb318, 1, none⟩ = some (.slice none 0 0) := (blk_cell BK318.out 1).trans rfl
     have hfz23_0 := blk_frozen BK318.out 0
     have hfz23_1 := blk_frozen BK318.out 1
     go_wp2
     refine bodyPost_ret (results_ct rfl _ _ gb318 24 #[.int .i64 0, .slice none 0 0] (0, 0) _ rfl (by (with_reducible repeat (first | refine blk_drewN ?_ _ | refine blk_drew ?_ | refine blk_alloc ?_ _)); refine blk_put (cs := #[.int .i64 0, .slice none 0 0]) ?_ 1 _ rfl; (with_reducible repeat (first | refine blk_drewN ?_ _ | refine blk_drew ?_ | refine blk_alloc ?_ _)); refine blk_put (cs := #[.int .i64 0, .slice none 0 0]) ?_ 0 _ rfl; (with_reducible repeat (first | refine blk_drewN ?_ _ | refine blk_drew ?_ | refine blk_alloc ?_ _)); exact BK318.out) Try.underlying24 rfl (by kernel_rfl)) rfl ?_
     exact ⟨_, by first | rfl | (simp [errW_none, errW_some] <;> rfl) | (simp [*, errW_none, errW_some] <;> rfl), by first | exact Kd.R_nil _ _ _ _ _ | exact Kd.N_nil _ _ _ _ _ | exact Kd.V_nil _ _ _ _ _ | exact Kd.Q_nil _ _ _ _ _ | exact Kd.S_nil _ _ _ _ _, by repeat (first | (with_reducible first | exact HB.out | apply below_alloc | apply pw_below_drewN | apply below_drew1 | refine below_set ?_ GE317.out | refine below_set ?_ GE318.out) | exact HB.out)⟩
    ·replace c21 := Bool.eq_false_iff.mpr c21
     subst c21
     have H1 : (if a0_0 = 1099511627776 then (some (0, ([] : List (S46)), 4)) else (shelfmarkref12_Move.l0 kj6 a2 t320 0 a0_0 l0_1 (wrap64 (a0_0 + 1)) ([] : List (S46)))) = some (r1, r2, r3) := by rw [if_neg (show ¬ (false = true) by decide)] at H; exact H
     clear H
     have H := H1
     clear H1
     by_cases c24 : a0_0 = 1099511627776
     ·rw [if_pos c24] at H
      have c24b0 : (a0_0 == 1099511627776) = true := beq_iff_eq.mpr c24
      have c24b1 : (a0_0 != 1099511627776) = false := bne_eq_false_iff_eq.mpr c24
      clear c24
      simp only [Option.some.injEq, Prod.mk.injEq] at H
      obtain ⟨rfl, rfl, rfl⟩ := H
      have hnb25 := NB317_318.out
      have hnc25 := NB318_317.out
      have hcz26_0 : wc.cell? ⟨gb317, 0, none⟩ = some (.int .i64 a0_0) := (blk_cell BK317.out 0).trans rfl
      have hcz26_1 : wc.cell? ⟨gb317, 1, none⟩ = some (.slice A0_1 l0_1.length c0_1) := (blk_cell BK317.out 1).trans rfl
      have hfz26_0 := blk_frozen BK317.out 0
      have hfz26_1 := blk_frozen BK317.out 1
      have hcz27_0 : wc.cell? ⟨gb318, 0, none⟩ = some (.int .i64 0) := (blk_cell BK318.out 0).trans rfl
      have hcz27_1 : wc.cell? ⟨gb318, 1, none⟩ = some (.slice none 0 0) := (blk_cell BK318.out 1).trans rfl
      have hfz27_0 := blk_frozen BK318.out 0
      have hfz27_1 := blk_frozen BK318.out 1
      go_wp2
      refine bodyPost_ret (results_ct rfl _ _ gb318 24 #[.int .i64 0, .slice none 0 0] (0, 0) _ rfl (by (with_reducible repeat (first | refine blk_drewN ?_ _ | refine blk_drew ?_ | refine blk_alloc ?_ _)); refine blk_put (cs := #[.int .i64 0, .slice none 0 0]) ?_ 1 _ rfl; (with_reducible repeat (first | refine blk_drewN ?_ _ | refine blk_drew ?_ | refine blk_alloc ?_ _)); refine blk_put (cs := #[.int .i64 0, .slice none 0 0]) ?_ 0 _ rfl; (with_reducible repeat (first | refine blk_drewN ?_ _ | refine blk_drew ?_ | refine blk_alloc ?_ _)); exact BK318.out) Try.underlying24 rfl (by kernel_rfl)) rfl ?_
      exact ⟨_, by first | rfl | (simp [errW_none, errW_some] <;> rfl) | (simp [*, errW_none, errW_some] <;> rfl), by first | exact Kd.R_nil _ _ _ _ _ | exact Kd.N_nil _ _ _ _ _ | exact Kd.V_nil _ _ _ _ _ | exact Kd.Q_nil _ _ _ _ _ | exact Kd.S_nil _ _ _ _ _, by repeat (first | (with_reducible first | exact HB.out | apply below_alloc | apply pw_below_drewN | apply below_drew1 | refine below_set ?_ GE317.out | refine below_set ?_ GE318.out) | exact HB.out)⟩
     ·rw [if_neg c24] at H
      have c24b0 : (a0_0 == 1099511627776) = false := beq_eq_false_iff_ne.mpr c24
      have c24b1 : (a0_0 != 1099511627776) = true := bne_iff_ne.mpr c24
      have H' := Aside0.mk H
      clear H
      have hnb28 := NB317_318.out
      have hnc28 := NB318_317.out
      have hcz29_0 : wc.cell? ⟨gb317, 0, none⟩ = some (.int .i64 a0_0) := (blk_cell BK317.out 0).trans rfl
      have hcz29_1 : wc.cell? ⟨gb317, 1, none⟩ = some (.slice A0_1 l0_1.length c0_1) := (blk_cell BK317.out 1).trans rfl
      have hfz29_0 := blk_frozen BK317.out 0
      have hfz29_1 := blk_frozen BK317.out 1
      go_wp2_with (first | ((with_reducible refine gate_dst (N := 11) rfl ?_); refine box_event ?hg (N := 11) ?hd (cs := #[.int .i64 0, .slice none 0 0]) (t := 24) ?hr ?_; (case hd => rfl); (case hg => rfl); (case hr => first | (go_simp; done) | (go_simp; rfl)); intro gb323 hg w30 hbox hb; have n0_ := Aside0.mk (blk_below BK317.out hb); have n1_ := Aside0.mk (blk_below BK318.out hb); have n2_ := Aside0.mk (below_step (by repeat (first | (with_reducible first | exact HB.out | apply below_alloc | apply pw_below_drewN | apply below_drew1 | refine below_set ?_ GE317.out | refine below_set ?_ GE318.out) | exact HB.out)) hb); have n3_ := Aside0.mk (hbox); have n4_ := Aside0.mk ((by rw [hg]; exact (below_size (by repeat (first | (with_reducible first | exact HB.out | apply below_alloc | apply pw_below_drewN | apply below_drew1 | refine below_set ?_ GE317.out | refine below_set ?_ GE318.out) | exact HB.out))) : w.heap.size ≤ gb323)); have n5_ := Aside0.mk ((by rw [hg]; exact (below_size (by repeat (first | (with_reducible first | exact HB.out | apply below_alloc | apply pw_below_drewN | apply below_drew1 | refine below_set ?_ GE317.out | refine below_set ?_ GE318.out) | exact HB.out))) : w.heap.size ≤ gb323)); have n6_ := Aside0.mk ((by rw [hg]; exact Nat.ne_of_lt (blk_lt (g := gb317) (o := .cells #[.int .i64 a0_0, .slice A0_1 l0_1.length c0_1] 24 (0, 0)) (by (with_reducible repeat (first | refine blk_drewN ?_ _ | refine blk_drew ?_ | refine blk_alloc ?_ _)); exact BK317.out)) : gb317 ≠ gb323)); have n7_ := Aside0.mk ((by rw [hg]; exact Nat.ne_of_gt (blk_lt (g := gb317) (o := .cells #[.int .i64 a0_0, .slice A0_1 l0_1.length c0_1] 24 (0, 0)) (by (with_reducible repeat (first | refine blk_drewN ?_ _ | refine blk_drew ?_ | refine blk_alloc ?_ _)); exact BK317.out)) : gb323 ≠ gb317)); have n8_ := Aside0.mk ((by rw [hg]; exact Nat.ne_of_lt (blk_lt (g := gb318) (o := .cells #[.int .i64 0, .slice none 0 0] 24 (0, 0)) (by (with_reducible repeat (first | refine blk_drewN ?_ _ | refine blk_drew ?_ | refine blk_alloc ?_ _)); exact BK318.out)) : gb318 ≠ gb323)); have n9_ := Aside0.mk ((by rw [hg]; exact Nat.ne_of_gt (blk_lt (g := gb318) (o := .cells #[.int .i64 0, .slice none 0 0] 24 (0, 0)) (by (with_reducible repeat (first | refine blk_drewN ?_ _ | refine blk_drew ?_ | refine blk_alloc ?_ _)); exact BK318.out)) : gb323 ≠ gb318)); clear BK317; clear BK318; clear HB; have BK317 := n0_; have BK318 := n1_; have HB := n2_; have BK323 := n3_; have GW323 := n4_; have GE323 := n5_; have NB317_323 := n6_; have NB323_317 := n7_; have NB318_323 := n8_; have NB323_318 := n9_; clear n0_ n1_ n2_ n3_ n4_ n5_ n6_ n7_ n8_ n9_; clear hb hbox hg; have hnb31 := NB323_317.out; have hnc31 := NB317_323.out; have hnb32 := NB323_318.out; have hnc32 := NB318_323.out; have hcz33_0 : w30.cell? ⟨gb323, 0, none⟩ = some (.int .i64 0) := (blk_cell BK323.out 0).trans rfl; have hcz33_1 : w30.cell? ⟨gb323, 1, none⟩ = some (.slice none 0 0) := (blk_cell BK323.out 1).trans rfl; have hfz33_0 := blk_frozen BK323.out 0; have hfz33_1 := blk_frozen BK323.out 1))
      go_loopg [12] kj6 (fun kq v12 w' => ∃ (x12_2 : Int) (x324001_2 : List (S46)) (u324001 : Value), v12 = .int .i64 x12_2 ∧ Aside0 (shelfmarkref12_Move.l0 kq a2 t320 x12_2 a0_0 l0_1 (wrap64 (a0_0 + 1)) x324001_2 = some (r1, r2, r3)) ∧ Aside0 (kq ≤ kj6) ∧ Aside0 (Kd.R k46 46 w' w.heap.size (fun _ => True) u324001 x324001_2) ∧ Aside0 (w'.heap[gb317]? = some (.cells #[.int .i64 a0_0, (.slice A0_1 l0_1.length c0_1)] 24 (0, 0))) ∧ Aside0 (w'.heap[gb318]? = some (.cells #[.int .i64 0, (.slice none 0 0)] 24 (0, 0))) ∧ Aside0 (w'.heap[gb323]? = some (.cells #[.int .i64 (wrap64 (a0_0 + 1)), u324001] 24 (0, 0))) ∧ Aside0 (Below w.heap.size w w'))
      case atStart => exact ⟨(0), (([] : List (S46))), (.slice none 0 0), (by first | rfl | (simp; done) | (simp [*]; done) | (simp [ne_nil_bytes]; done) | (simp [eq_nil_bytes]; done)), H', ⟨Nat.le_refl _⟩, ⟨by first | exact Kd.R_nil _ _ _ _ _ | exact Kd.N_nil _ _ _ _ _ | exact Kd.V_nil _ _ _ _ _ | exact Kd.Q_nil _ _ _ _ _ | exact Kd.S_nil _ _ _ _ _⟩, ⟨by (with_reducible repeat (first | refine blk_drewN ?_ _ | refine blk_drew ?_ | refine blk_alloc ?_ _)); refine blk_far ?_ NB317_323.out _; (with_reducible repeat (first | refine blk_drewN ?_ _ | refine blk_drew ?_ | refine blk_alloc ?_ _)); refine blk_far ?_ NB317_323.out _; (with_reducible repeat (first | refine blk_drewN ?_ _ | refine blk_drew ?_ | refine blk_alloc ?_ _)); exact BK317.out⟩, ⟨by (with_reducible repeat (first | refine blk_drewN ?_ _ | refine blk_drew ?_ | refine blk_alloc ?_ _)); refine blk_far ?_ NB318_323.out _; (with_reducible repeat (first | refine blk_drewN ?_ _ | refine blk_drew ?_ | refine blk_alloc ?_ _)); refine blk_far ?_ NB318_323.out _; (with_reducible repeat (first | refine blk_drewN ?_ _ | refine blk_drew ?_ | refine blk_alloc ?_ _)); exact BK318.out⟩, ⟨by (with_reducible repeat (first | refine blk_drewN ?_ _ | refine blk_drew ?_ | refine blk_alloc ?_ _)); refine blk_put (cs := #[.int .i64 (wrap64 (a0_0 + 1)), .slice none 0 0]) ?_ 1 _ rfl; (with_reducible repeat (first | refine blk_drewN ?_ _ | refine blk_drew ?_ | refine blk_alloc ?_ _)); refine blk_put (cs := #[.int .i64 0, .slice none 0 0]) ?_ 0 _ rfl; (with_reducible repeat (first | refine blk_drewN ?_ _ | refine blk_drew ?_ | refine blk_alloc ?_ _)); exact BK323.out⟩, ⟨by repeat (first | (with_reducible first | exact HB.out | apply below_alloc | apply pw_below_drewN | apply below_drew1 | refine below_set ?_ GE317.out | refine below_set ?_ GE318.out | refine below_set ?_ GE323.out) | exact HB.out)⟩⟩
      case round =>
       clear H'
       try clear c1
       try clear c2
       try clear p2
       try clear c3
       try clear p3
       try clear q3
       try clear hx3
       try clear c5
       try clear c5b0
       try clear c5b0z
       try clear c5b1
       try clear c5b1z
       try clear p6
       try clear c10
       try clear c12
       try clear c15
       try clear c15b0
       try clear c15b0z
       try clear c16
       try clear c16b0
       try clear c16b0z
       try clear c17
       try clear c17b0
       try clear c17b0z
       try clear c18
       try clear c18b0
       try clear c18b0z
       try clear c19
       try clear c21
       try clear c22
       try clear c24
       try clear c24b0
       try clear c24b0z
       try clear c24b1
       try clear c24b1z
       try clear c25
       try clear c28
       try clear c31
       try clear c32
       try clear p32
       try clear q32
       try clear hx32
       try clear c33
       try clear hcz11_0
       try clear hcz11_1
       try clear hcz13_0
       try clear hcz13_1
       try clear hcz20_0
       try clear hcz20_1
       try clear hcz23_0
       try clear hcz23_1
       try clear hcz26_0
       try clear hcz26_1
       try clear hcz27_0
       try clear hcz27_1
       try clear hcz29_0
       try clear hcz29_1
       try clear hcz33_0
       try clear hcz33_1
       try clear hfz11_0
       try clear hfz11_1
       try clear hfz13_0
       try clear hfz13_1
       try clear hfz20_0
       try clear hfz20_1
       try clear hfz23_0
       try clear hfz23_1
       try clear hfz26_0
       try clear hfz26_1
       try clear hfz27_0
       try clear hfz27_1
       try clear hfz29_0
       try clear hfz29_1
       try clear hfz33_0
       try clear hfz33_1
       try clear hx322_0
       try clear hx322_1
       try clear p2
       try clear p3
       try clear p322
       try clear q3
       try clear q322
       obtain ⟨x12_2, x324001_2, u324001, rfl, HA, HK2, HO_324001, BK317, BK318, BK323, HB⟩ := hrel
       cases gk with
       | zero => exact absurd HA.out (by simp [shelfmarkref12_Move.l0])
       | succ k2 =>
        have H := HA.out
        clear HA
        simp only [shelfmarkref12_Move.l0] at H
        by_cases c34 : x12_2 < (l0_1.length : Int)
        ·rw [if_pos c34] at H
         have c34b0 : decide (x12_2 < (l0_1.length : Int)) = true := decide_eq_true c34
         clear c34
         by_cases c35 : 0 ≤ x12_2
         ·rw [if_pos c35] at H
          have c35b0 : decide (0 ≤ x12_2) = true := decide_eq_true c35
          clear c35
          by_cases c36 : x12_2 = t320
          ·rw [if_pos c36] at H
           have c36b0 : (x12_2 == t320) = true := beq_iff_eq.mpr c36
           have c36b1 : (x12_2 != t320) = false := bne_eq_false_iff_eq.mpr c36
           clear c36
           by_cases c37 : x324001_2.length < 5864062014805
           ·rw [if_pos c37] at H
            have LMc37 := Aside0.mk c37
            clear c37
            obtain ⟨y326, hy326⟩ : ∃ y_ : List (S46), y_ = (x324001_2 ++ [(⟨(rd_T46 l0_1 x12_2).f0, a2⟩ : S46)]) := ⟨_, rfl⟩
            replace H : (shelfmarkref12_Move.l0 k2 a2 t320 (wrap64 (x12_2 + 1)) a0_0 l0_1 (wrap64 (a0_0 + 1)) y326) = some (r1, r2, r3) := by first | (rw [hy326]; with_reducible exact H) | (have H2_ := (Option.bind_some _ _).symm.trans H; rw [hy326]; with_reducible exact H2_) | (have H2_ := (Option.bind_some _ _).symm.trans H; with_reducible exact H2_) | with_reducible exact H | (rw [hy326]; exact H) | exact H
            have Ny326 := Aside0.mk hy326
            clear hy326
            have H' := Aside0.mk H
            clear H
            have hnb38 := NB317_318.out
            have hnc38 := NB318_317.out
            have hnb39 := NB317_323.out
            have hnc39 := NB323_317.out
            have hcz40_0 : wr.cell? ⟨gb317, 0, none⟩ = some (.int .i64 a0_0) := (blk_cell BK317.out 0).trans rfl
            have hcz40_1 : wr.cell? ⟨gb317, 1, none⟩ = some (.slice A0_1 l0_1.length c0_1) := (blk_cell BK317.out 1).trans rfl
            have hfz40_0 := blk_frozen BK317.out 0
            have hfz40_1 := blk_frozen BK317.out 1
            have p324 : 0 ≤ (x12_2 : Int) := of_decide_eq_true (by first | (with_reducible assumption) | assumption)
            have q324 : x12_2 < (l0_1.length : Int) := of_decide_eq_true (by first | (with_reducible assumption) | assumption)
            obtain ⟨ad324, e324, hx324_0, hx324_1⟩ := at_T46 HR0_1.out x12_2 p324 q324
            cases e324
            replace hx324_0 := (HB.out.cell (World.block_lt_of_cell? w _ hx324_0)).trans hx324_0
            replace hx324_1 := (HB.out.cell (World.block_lt_of_cell? w _ hx324_1)).trans hx324_1
            replace p324 := eq_true p324
            replace q324 := eq_true q324
            go_wp2_with (first | ((with_reducible refine gate_dst (N := 13) rfl ?_); refine box_event ?hg (N := 13) ?hd (cs := #[.string (⟨#[]⟩ : ByteArray), .int .i64 0]) (t := 46) ?hr ?_; (case hd => rfl); (case hg => rfl); (case hr => first | (go_simp; done) | (go_simp; rfl)); intro gb325 hg w41 hbox hb; have n0_ := Aside0.mk (Kd.R_below (Kd.R_elderB (by (with_reducible repeat (first | apply Kd.R_alloc | apply Kd.R_drewN | apply Kd.R_drew)); exact HO_324001.out) gb325 (Nat.le_of_eq hg.symm)) hb); have n1_ := Aside0.mk (blk_below BK317.out hb); have n2_ := Aside0.mk (blk_below BK318.out hb); have n3_ := Aside0.mk (blk_below BK323.out hb); have n4_ := Aside0.mk (below_step (by repeat (first | (with_reducible first | exact HB.out | apply below_alloc | apply pw_below_drewN | apply below_drew1 | refine below_set ?_ GE317.out | refine below_set ?_ GE318.out | refine below_set ?_ GE323.out) | exact HB.out)) hb); have n5_ := Aside0.mk (hbox); have n6_ := Aside0.mk ((by rw [hg]; exact (below_size (by repeat (first | (with_reducible first | exact HB.out | apply below_alloc | apply pw_below_drewN | apply below_drew1 | refine below_set ?_ GE317.out | refine below_set ?_ GE318.out | refine below_set ?_ GE323.out) | exact HB.out))) : w.heap.size ≤ gb325)); have n7_ := Aside0.mk ((by rw [hg]; exact (below_size (by repeat (first | (with_reducible first | exact HB.out | apply below_alloc | apply pw_below_drewN | apply below_drew1 | refine below_set ?_ GE317.out | refine below_set ?_ GE318.out | refine below_set ?_ GE323.out) | exact HB.out))) : w.heap.size ≤ gb325)); have n8_ := Aside0.mk ((by rw [hg]; exact Nat.ne_of_lt (blk_lt (g := gb317) (o := .cells #[.int .i64 a0_0, .slice (some ad324) l0_1.length c0_1] 24 (0, 0)) (by (with_reducible repeat (first | refine blk_drewN ?_ _ | refine blk_drew ?_ | refine blk_alloc ?_ _)); exact BK317.out)) : gb317 ≠ gb325)); have n9_ := Aside0.mk ((by rw [hg]; exact Nat.ne_of_gt (blk_lt (g := gb317) (o := .cells #[.int .i64 a0_0, .slice (some ad324) l0_1.length c0_1] 24 (0, 0)) (by (with_reducible repeat (first | refine blk_drewN ?_ _ | refine blk_drew ?_ | refine blk_alloc ?_ _)); exact BK317.out)) : gb325 ≠ gb317)); have n10_ := Aside0.mk ((by rw [hg]; exact Nat.ne_of_lt (blk_lt (g := gb318) (o := .cells #[.int .i64 0, .slice none 0 0] 24 (0, 0)) (by (with_reducible repeat (first | refine blk_drewN ?_ _ | refine blk_drew ?_ | refine blk_alloc ?_ _)); exact BK318.out)) : gb318 ≠ gb325)); have n11_ := Aside0.mk ((by rw [hg]; exact Nat.ne_of_gt (blk_lt (g := gb318) (o := .cells #[.int .i64 0, .slice none 0 0] 24 (0, 0)) (by (with_reducible repeat (first | refine blk_drewN ?_ _ | refine blk_drew ?_ | refine blk_alloc ?_ _)); exact BK318.out)) : gb325 ≠ gb318)); have n12_ := Aside0.mk ((by rw [hg]; exact Nat.ne_of_lt (blk_lt (g := gb323) (o := .cells #[.int .i64 (wrap64 (a0_0 + 1)), u324001] 24 (0, 0)) (by (with_reducible repeat (first | refine blk_drewN ?_ _ | refine blk_drew ?_ | refine blk_alloc ?_ _)); exact BK323.out)) : gb323 ≠ gb325)); have n13_ := Aside0.mk ((by rw [hg]; exact Nat.ne_of_gt (blk_lt (g := gb323) (o := .cells #[.int .i64 (wrap64 (a0_0 + 1)), u324001] 24 (0, 0)) (by (with_reducible repeat (first | refine blk_drewN ?_ _ | refine blk_drew ?_ | refine blk_alloc ?_ _)); exact BK323.out)) : gb325 ≠ gb323)); clear HO_324001; clear BK317; clear BK318; clear BK323; clear HB; have HO_324001 := n0_; have BK317 := n1_; have BK318 := n2_; have BK323 := n3_; have HB := n4_; have BK325 := n5_; have GW325 := n6_; have GE325 := n7_; have NB317_325 := n8_; have NB325_317 := n9_; have NB318_325 := n10_; have NB325_318 := n11_; have NB323_325 := n12_; have NB325_323 := n13_; clear n0_ n1_ n2_ n3_ n4_ n5_ n6_ n7_ n8_ n9_ n10_ n11_ n12_ n13_; clear hb hbox hg; have hnb42 := NB325_317.out; have hnc42 := NB317_325.out; have hnb43 := NB325_318.out; have hnc43 := NB318_325.out; have hnb44 := NB325_323.out; have hnc44 := NB323_325.out; have hcz45_0 : w41.cell? ⟨gb325, 0, none⟩ = some (.string (⟨#[]⟩ : ByteArray)) := (blk_cell BK325.out 0).trans rfl; have hcz45_1 : w41.cell? ⟨gb325, 1, none⟩ = some (.int .i64 0) := (blk_cell BK325.out 1).trans rfl; have hfz45_0 := blk_frozen BK325.out 0; have hfz45_1 := blk_frozen BK325.out 1; have hnb46 := NB323_318.out; have hnc46 := NB318_323.out; have hcz47_0 : w41.cell? ⟨gb323, 0, none⟩ = some (.int .i64 (wrap64 (a0_0 + 1))) := (blk_cell BK323.out 0).trans rfl; have hcz47_1 : w41.cell? ⟨gb323, 1, none⟩ = some (u324001) := (blk_cell BK323.out 1).trans rfl; have hfz47_0 := blk_frozen BK323.out 0; have hfz47_1 := blk_frozen BK323.out 1) | ((with_reducible refine gate_builtin (b := .append) (xs := #[.tmp 69, .tmp 71]) rfl ?_); at_builtin; refine Kd.R_append k46 (w0 := w) w.heap.size rfl (.tmp 69) (.tmp 71) 22 46 (.agg #[(.string ⟨#[]⟩), (.int .i64 0)]) 24 rfl Try.underlying22 info46 rfl (by decide) (by omega) u324001 x324001_2 (⟨(rd_T46 l0_1 x12_2).f0, a2⟩ : S46) [.string ((rd_T46 l0_1 x12_2).f0), .int .i64 a2] (fun k_ => k_ ≠ gb325) (fun _ => False) rfl (by first | (go_simp; done) | (go_simp; rfl)) ?aP (fun _ hk => hk.elim) ?aF ?aO ?aB ?aS ?aL ?_; (case aP => exact k46_mkM _ _ _ (⟨(rd_T46 l0_1 x12_2).f0, a2⟩ : S46)); (case aB => exact (by repeat (first | (with_reducible first | exact HB.out | apply below_alloc | apply pw_below_drewN | apply below_drew1 | refine below_set ?_ GE317.out | refine below_set ?_ GE318.out | refine below_set ?_ GE323.out | refine below_set ?_ GE325.out) | exact HB.out))); (case aF => exact (fun k_ hk => Kd.freshB (g := gb325) (o := .cells #[.string ((rd_T46 l0_1 x12_2).f0), .int .i64 a2] 46 (0, 0)) (by (with_reducible repeat (first | refine blk_drewN ?_ _ | refine blk_drew ?_ | refine blk_alloc ?_ _)); refine blk_put (cs := #[.string ((rd_T46 l0_1 x12_2).f0), .int .i64 ((rd_T46 l0_1 x12_2).f1)]) ?_ 1 _ rfl; (with_reducible repeat (first | refine blk_drewN ?_ _ | refine blk_drew ?_ | refine blk_alloc ?_ _)); refine blk_put (cs := #[.string ((rd_T46 l0_1 x12_2).f0), .int .i64 0]) ?_ 1 _ rfl; (with_reducible repeat (first | refine blk_drewN ?_ _ | refine blk_drew ?_ | refine blk_alloc ?_ _)); refine blk_put (cs := #[.string (⟨#[]⟩ : ByteArray), .int .i64 0]) ?_ 0 _ rfl; (with_reducible repeat (first | refine blk_drewN ?_ _ | refine blk_drew ?_ | refine blk_alloc ?_ _)); exact BK325.out) k_ hk)); (case aO => exact (by (with_reducible repeat (first | apply Kd.R_alloc | apply Kd.R_drewN | apply Kd.R_drew)); exact Kd.R_mono (Kd.R_far (p := ⟨gb325, 1, none⟩) (Kd.R_far (p := ⟨gb325, 1, none⟩) (Kd.R_far (p := ⟨gb325, 0, none⟩) (Kd.R_mono HO_324001.out (fun k_ hk => (⟨hk, hk.2⟩ : _ ∧ k_ ≠ gb325))) (fun _ hk => hk.2) (.string ((rd_T46 l0_1 x12_2).f0))) (fun _ hk => hk.2) (.int .i64 ((rd_T46 l0_1 x12_2).f1))) (fun _ hk => hk.2) (.int .i64 a2)) (fun _ hk => hk.1.2))); (case aS => exact (below_size (by repeat (first | (with_reducible first | exact HB.out | apply below_alloc | apply pw_below_drewN | apply below_drew1 | refine below_set ?_ GE317.out | refine below_set ?_ GE318.out | refine below_set ?_ GE323.out | refine below_set ?_ GE325.out) | exact HB.out)))); (case aL => have := LMc37.out; omega); intro v327 w48 ho hb hg hat; rw [← Ny326.out] at ho; have n0_ := Aside0.mk (blk_grown (g := gb317) (o := .cells #[.int .i64 a0_0, .slice (some ad324) l0_1.length c0_1] 24 (0, 0)) (by (with_reducible repeat (first | refine blk_drewN ?_ _ | refine blk_drew ?_ | refine blk_alloc ?_ _)); refine blk_far ?_ NB317_325.out _; (with_reducible repeat (first | refine blk_drewN ?_ _ | refine blk_drew ?_ | refine blk_alloc ?_ _)); refine blk_far ?_ NB317_325.out _; (with_reducible repeat (first | refine blk_drewN ?_ _ | refine blk_drew ?_ | refine blk_alloc ?_ _)); refine blk_far ?_ NB317_325.out _; (with_reducible repeat (first | refine blk_drewN ?_ _ | refine blk_drew ?_ | refine blk_alloc ?_ _)); exact BK317.out) hg (Kd.R_ne HO_324001.out BK317.out (by decide))); have n1_ := Aside0.mk (blk_grown (g := gb318) (o := .cells #[.int .i64 0, .slice none 0 0] 24 (0, 0)) (by (with_reducible repeat (first | refine blk_drewN ?_ _ | refine blk_drew ?_ | refine blk_alloc ?_ _)); refine blk_far ?_ NB318_325.out _; (with_reducible repeat (first | refine blk_drewN ?_ _ | refine blk_drew ?_ | refine blk_alloc ?_ _)); refine blk_far ?_ NB318_325.out _; (with_reducible repeat (first | refine blk_drewN ?_ _ | refine blk_drew ?_ | refine blk_alloc ?_ _)); refine blk_far ?_ NB318_325.out _; (with_reducible repeat (first | refine blk_drewN ?_ _ | refine blk_drew ?_ | refine blk_alloc ?_ _)); exact BK318.out) hg (Kd.R_ne HO_324001.out BK318.out (by decide))); have n2_ := Aside0.mk (blk_grown (g := gb323) (o := .cells #[.int .i64 (wrap64 (a0_0 + 1)), u324001] 24 (0, 0)) (by (with_reducible repeat (first | refine blk_drewN ?_ _ | refine blk_drew ?_ | refine blk_alloc ?_ _)); refine blk_far ?_ NB323_325.out _; (with_reducible repeat (first | refine blk_drewN ?_ _ | refine blk_drew ?_ | refine blk_alloc ?_ _)); refine blk_far ?_ NB323_325.out _; (with_reducible repeat (first | refine blk_drewN ?_ _ | refine blk_drew ?_ | refine blk_alloc ?_ _)); refine blk_far ?_ NB323_325.out _; (with_reducible repeat (first | refine blk_drewN ?_ _ | refine blk_drew ?_ | refine blk_alloc ?_ _)); exact BK323.out) hg (Kd.R_ne HO_324001.out BK323.out (by decide))); have n3_ := Aside0.mk (blk_grown (g := gb325) (o := .cells #[.string ((rd_T46 l0_1 x12_2).f0), .int .i64 a2] 46 (0, 0)) (by (with_reducible repeat (first | refine blk_drewN ?_ _ | refine blk_drew ?_ | refine blk_alloc ?_ _)); refine blk_put (cs := #[.string ((rd_T46 l0_1 x12_2).f0), .int .i64 ((rd_T46 l0_1 x12_2).f1)]) ?_ 1 _ rfl; (with_reducible repeat (first | refine blk_drewN ?_ _ | refine blk_drew ?_ | refine blk_alloc ?_ _)); refine blk_put (cs := #[.string ((rd_T46 l0_1 x12_2).f0), .int .i64 0]) ?_ 1 _ rfl; (with_reducible repeat (first | refine blk_drewN ?_ _ | refine blk_drew ?_ | refine blk_alloc ?_ _)); refine blk_put (cs := #[.string (⟨#[]⟩ : ByteArray), .int .i64 0]) ?_ 0 _ rfl; (with_reducible repeat (first | refine blk_drewN ?_ _ | refine blk_drew ?_ | refine blk_alloc ?_ _)); exact BK325.out) hg (Kd.R_away HO_324001.out (fun _ hk => hk.2))); have n4_ := Aside0.mk (hb); have n5_ := Aside0.mk (ho); clear BK317; clear BK318; clear BK323; clear BK325; clear HB; clear HO_324001; have BK317 := n0_; have BK318 := n1_; have BK323 := n2_; have BK325 := n3_; have HB := n4_; have HO328 := n5_; clear n0_ n1_ n2_ n3_ n4_ n5_; clear ho hb hg hat; obtain ⟨Ao49, co49, eo49⟩ := Kd.R_slice HO328.out; subst eo49; have hcz50_0 : w48.cell? ⟨gb323, 0, none⟩ = some (.int .i64 (wrap64 (a0_0 + 1))) := (blk_cell BK323.out 0).trans rfl; have hcz50_1 : w48.cell? ⟨gb323, 1, none⟩ = some (u324001) := (blk_cell BK323.out 1).trans rfl; have hfz50_0 := blk_frozen BK323.out 0; have hfz50_1 := blk_frozen BK323.out 1))
            go_roundg k2
            case measure => have := HJ6.out; have := HK2.out; omega
            case rel => exact ⟨(wrap64 (x12_2 + 1)), (y326), (.slice Ao49 y326.length co49), (by first | rfl | (simp; done) | (simp [*]; done) | (simp [ne_nil_bytes]; done) | (simp [eq_nil_bytes]; done)), H', ⟨by have := HJ6.out; have := HK2.out; omega⟩, ⟨by (with_reducible repeat (first | apply Kd.R_alloc | apply Kd.R_drewN | apply Kd.R_drew)); exact Kd.R_mono (Kd.R_far (p := ⟨gb323, 1, none⟩) (Kd.R_types HO328.out BK323.out (by decide)) (fun _ hk => hk.2) (.slice Ao49 y326.length co49)) (fun _ hk => trivial)⟩, ⟨by (with_reducible repeat (first | refine blk_drewN ?_ _ | refine blk_drew ?_ | refine blk_alloc ?_ _)); refine blk_far ?_ NB317_323.out _; (with_reducible repeat (first | refine blk_drewN ?_ _ | refine blk_drew ?_ | refine blk_alloc ?_ _)); exact BK317.out⟩, ⟨by (with_reducible repeat (first | refine blk_drewN ?_ _ | refine blk_drew ?_ | refine blk_alloc ?_ _)); refine blk_far ?_ NB318_323.out _; (with_reducible repeat (first | refine blk_drewN ?_ _ | refine blk_drew ?_ | refine blk_alloc ?_ _)); exact BK318.out⟩, ⟨by (with_reducible repeat (first | refine blk_drewN ?_ _ | refine blk_drew ?_ | refine blk_alloc ?_ _)); refine blk_put (cs := #[.int .i64 (wrap64 (a0_0 + 1)), u324001]) ?_ 1 _ rfl; (with_reducible repeat (first | refine blk_drewN ?_ _ | refine blk_drew ?_ | refine blk_alloc ?_ _)); exact BK323.out⟩, ⟨by repeat (first | (with_reducible first | exact HB.out | apply below_alloc | apply pw_below_drewN | apply below_drew1 | refine below_set ?_ GE317.out | refine below_set ?_ GE318.out | refine below_set ?_ GE323.out | refine below_set ?_ GE325.out) | exact HB.out)⟩⟩
           ·rw [if_neg c37] at H
            exact absurd H (by simp)
          ·rw [if_neg c36] at H
           have c36b0 : (x12_2 == t320) = false := beq_eq_false_iff_ne.mpr c36
           have c36b1 : (x12_2 != t320) = true := bne_iff_ne.mpr c36
           by_cases c51 : x324001_2.length < 5864062014805
           ·rw [if_pos c51] at H
            have LMc51 := Aside0.mk c51
            clear c51
            obtain ⟨y329, hy329⟩ : ∃ y_ : List (S46), y_ = (x324001_2 ++ [(⟨(rd_T46 l0_1 x12_2).f0, (rd_T46 l0_1 x12_2).f1⟩ : S46)]) := ⟨_, rfl⟩
            replace H : (shelfmarkref12_Move.l0 k2 a2 t320 (wrap64 (x12_2 + 1)) a0_0 l0_1 (wrap64 (a0_0 + 1)) y329) = some (r1, r2, r3) := by first | (rw [hy329]; with_reducible exact H) | (have H2_ := (Option.bind_some _ _).symm.trans H; rw [hy329]; with_reducible exact H2_) | (have H2_ := (Option.bind_some _ _).symm.trans H; with_reducible exact H2_) | with_reducible exact H | (rw [hy329]; exact H) | exact H
            have Ny329 := Aside0.mk hy329
            clear hy329
            have H' := Aside0.mk H
            clear H
            have hnb52 := NB317_318.out
            have hnc52 := NB318_317.out
            have hnb53 := NB317_323.out
            have hnc53 := NB323_317.out
            have hcz54_0 : wr.cell? ⟨gb317, 0, none⟩ = some (.int .i64 a0_0) := (blk_cell BK317.out 0).trans rfl
            have hcz54_1 : wr.cell? ⟨gb317, 1, none⟩ = some (.slice A0_1 l0_1.length c0_1) := (blk_cell BK317.out 1).trans rfl
            have hfz54_0 := blk_frozen BK317.out 0
            have hfz54_1 := blk_frozen BK317.out 1
            have p324 : 0 ≤ (x12_2 : Int) := of_decide_eq_true (by first | (with_reducible assumption) | assumption)
            have q324 : x12_2 < (l0_1.length : Int) := of_decide_eq_true (by first | (with_reducible assumption) | assumption)
            obtain ⟨ad324, e324, hx324_0, hx324_1⟩ := at_T46 HR0_1.out x12_2 p324 q324
            cases e324
            replace hx324_0 := (HB.out.cell (World.block_lt_of_cell? w _ hx324_0)).trans hx324_0
            replace hx324_1 := (HB.out.cell (World.block_lt_of_cell? w _ hx324_1)).trans hx324_1
            replace p324 := eq_true p324
            replace q324 := eq_true q324
            go_wp2_with (first | ((with_reducible refine gate_dst (N := 13) rfl ?_); refine box_event ?hg (N := 13) ?hd (cs := #[.string (⟨#[]⟩ : ByteArray), .int .i64 0]) (t := 46) ?hr ?_; (case hd => rfl); (case hg => rfl); (case hr => first | (go_simp; done) | (go_simp; rfl)); intro gb325 hg w55 hbox hb; have n0_ := Aside0.mk (Kd.R_below (Kd.R_elderB (by (with_reducible repeat (first | apply Kd.R_alloc | apply Kd.R_drewN | apply Kd.R_drew)); exact HO_324001.out) gb325 (Nat.le_of_eq hg.symm)) hb); have n1_ := Aside0.mk (blk_below BK317.out hb); have n2_ := Aside0.mk (blk_below BK318.out hb); have n3_ := Aside0.mk (blk_below BK323.out hb); have n4_ := Aside0.mk (below_step (by repeat (first | (with_reducible first | exact HB.out | apply below_alloc | apply pw_below_drewN | apply below_drew1 | refine below_set ?_ GE317.out | refine below_set ?_ GE318.out | refine below_set ?_ GE323.out) | exact HB.out)) hb); have n5_ := Aside0.mk (hbox); have n6_ := Aside0.mk ((by rw [hg]; exact (below_size (by repeat (first | (with_reducible first | exact HB.out | apply below_alloc | apply pw_below_drewN | apply below_drew1 | refine below_set ?_ GE317.out | refine below_set ?_ GE318.out | refine below_set ?_ GE323.out) | exact HB.out))) : w.heap.size ≤ gb325)); have n7_ := Aside0.mk ((by rw [hg]; exact (below_size (by repeat (first | (with_reducible first | exact HB.out | apply below_alloc | apply pw_below_drewN | apply below_drew1 | refine below_set ?_ GE317.out | refine below_set ?_ GE318.out | refine below_set ?_ GE323.out) | exact HB.out))) : w.heap.size ≤ gb325)); have n8_ := Aside0.mk ((by rw [hg]; exact Nat.ne_of_lt (blk_lt (g := gb317) (o := .cells #[.int .i64 a0_0, .slice (some ad324) l0_1.length c0_1] 24 (0, 0)) (by (with_reducible repeat (first | refine blk_drewN ?_ _ | refine blk_drew ?_ | refine blk_alloc ?_ _)); exact BK317.out)) : gb317 ≠ gb325)); have n9_ := Aside0.mk ((by rw [hg]; exact Nat.ne_of_gt (blk_lt (g := gb317) (o := .cells #[.int .i64 a0_0, .slice (some ad324) l0_1.length c0_1] 24 (0, 0)) (by (with_reducible repeat (first | refine blk_drewN ?_ _ | refine blk_drew ?_ | refine blk_alloc ?_ _)); exact BK317.out)) : gb325 ≠ gb317)); have n10_ := Aside0.mk ((by rw [hg]; exact Nat.ne_of_lt (blk_lt (g := gb318) (o := .cells #[.int .i64 0, .slice none 0 0] 24 (0, 0)) (by (with_reducible repeat (first | refine blk_drewN ?_ _ | refine blk_drew ?_ | refine blk_alloc ?_ _)); exact BK318.out)) : gb318 ≠ gb325)); have n11_ := Aside0.mk ((by rw [hg]; exact Nat.ne_of_gt (blk_lt (g := gb318) (o := .cells #[.int .i64 0, .slice none 0 0] 24 (0, 0)) (by (with_reducible repeat (first | refine blk_drewN ?_ _ | refine blk_drew ?_ | refine blk_alloc ?_ _)); exact BK318.out)) : gb325 ≠ gb318)); have n12_ := Aside0.mk ((by rw [hg]; exact Nat.ne_of_lt (blk_lt (g := gb323) (o := .cells #[.int .i64 (wrap64 (a0_0 + 1)), u324001] 24 (0, 0)) (by (with_reducible repeat (first | refine blk_drewN ?_ _ | refine blk_drew ?_ | refine blk_alloc ?_ _)); exact BK323.out)) : gb323 ≠ gb325)); have n13_ := Aside0.mk ((by rw [hg]; exact Nat.ne_of_gt (blk_lt (g := gb323) (o := .cells #[.int .i64 (wrap64 (a0_0 + 1)), u324001] 24 (0, 0)) (by (with_reducible repeat (first | refine blk_drewN ?_ _ | refine blk_drew ?_ | refine blk_alloc ?_ _)); exact BK323.out)) : gb325 ≠ gb323)); clear HO_324001; clear BK317; clear BK318; clear BK323; clear HB; have HO_324001 := n0_; have BK317 := n1_; have BK318 := n2_; have BK323 := n3_; have HB := n4_; have BK325 := n5_; have GW325 := n6_; have GE325 := n7_; have NB317_325 := n8_; have NB325_317 := n9_; have NB318_325 := n10_; have NB325_318 := n11_; have NB323_325 := n12_; have NB325_323 := n13_; clear n0_ n1_ n2_ n3_ n4_ n5_ n6_ n7_ n8_ n9_ n10_ n11_ n12_ n13_; clear hb hbox hg; have hnb56 := NB325_317.out; have hnc56 := NB317_325.out; have hnb57 := NB325_318.out; have hnc57 := NB318_325.out; have hnb58 := NB325_323.out; have hnc58 := NB323_325.out; have hcz59_0 : w55.cell? ⟨gb325, 0, none⟩ = some (.string (⟨#[]⟩ : ByteArray)) := (blk_cell BK325.out 0).trans rfl; have hcz59_1 : w55.cell? ⟨gb325, 1, none⟩ = some (.int .i64 0) := (blk_cell BK325.out 1).trans rfl; have hfz59_0 := blk_frozen BK325.out 0; have hfz59_1 := blk_frozen BK325.out 1; have hnb60 := NB323_318.out; have hnc60 := NB318_323.out; have hcz61_0 : w55.cell? ⟨gb323, 0, none⟩ = some (.int .i64 (wrap64 (a0_0 + 1))) := (blk_cell BK323.out 0).trans rfl; have hcz61_1 : w55.cell? ⟨gb323, 1, none⟩ = some (u324001) := (blk_cell BK323.out 1).trans rfl; have hfz61_0 := blk_frozen BK323.out 0; have hfz61_1 := blk_frozen BK323.out 1) | ((with_reducible refine gate_builtin (b := .append) (xs := #[.tmp 69, .tmp 71]) rfl ?_); at_builtin; refine Kd.R_append k46 (w0 := w) w.heap.size rfl (.tmp 69) (.tmp 71) 22 46 (.agg #[(.string ⟨#[]⟩), (.int .i64 0)]) 24 rfl Try.underlying22 info46 rfl (by decide) (by omega) u324001 x324001_2 (⟨(rd_T46 l0_1 x12_2).f0, (rd_T46 l0_1 x12_2).f1⟩ : S46) [.string ((rd_T46 l0_1 x12_2).f0), .int .i64 ((rd_T46 l0_1 x12_2).f1)] (fun k_ => k_ ≠ gb325) (fun _ => False) rfl (by first | (go_simp; done) | (go_simp; rfl)) ?aP (fun _ hk => hk.elim) ?aF ?aO ?aB ?aS ?aL ?_; (case aP => exact k46_mkM _ _ _ (⟨(rd_T46 l0_1 x12_2).f0, (rd_T46 l0_1 x12_2).f1⟩ : S46)); (case aB => exact (by repeat (first | (with_reducible first | exact HB.out | apply below_alloc | apply pw_below_drewN | apply below_drew1 | refine below_set ?_ GE317.out | refine below_set ?_ GE318.out | refine below_set ?_ GE323.out | refine below_set ?_ GE325.out) | exact HB.out))); (case aF => exact (fun k_ hk => Kd.freshB (g := gb325) (o := .cells #[.string ((rd_T46 l0_1 x12_2).f0), .int .i64 ((rd_T46 l0_1 x12_2).f1)] 46 (0, 0)) (by (with_reducible repeat (first | refine blk_drewN ?_ _ | refine blk_drew ?_ | refine blk_alloc ?_ _)); refine blk_put (cs := #[.string ((rd_T46 l0_1 x12_2).f0), .int .i64 0]) ?_ 1 _ rfl; (with_reducible repeat (first | refine blk_drewN ?_ _ | refine blk_drew ?_ | refine blk_alloc ?_ _)); refine blk_put (cs := #[.string (⟨#[]⟩ : ByteArray), .int .i64 0]) ?_ 0 _ rfl; (with_reducible repeat (first | refine blk_drewN ?_ _ | refine blk_drew ?_ | refine blk_alloc ?_ _)); exact BK325.out) k_ hk)); (case aO => exact (by (with_reducible repeat (first | apply Kd.R_alloc | apply Kd.R_drewN | apply Kd.R_drew)); exact Kd.R_mono (Kd.R_far (p := ⟨gb325, 1, none⟩) (Kd.R_far (p := ⟨gb325, 0, none⟩) (Kd.R_mono HO_324001.out (fun k_ hk => (⟨hk, hk.2⟩ : _ ∧ k_ ≠ gb325))) (fun _ hk => hk.2) (.string ((rd_T46 l0_1 x12_2).f0))) (fun _ hk => hk.2) (.int .i64 ((rd_T46 l0_1 x12_2).f1))) (fun _ hk => hk.1.2))); (case aS => exact (below_size (by repeat (first | (with_reducible first | exact HB.out | apply below_alloc | apply pw_below_drewN | apply below_drew1 | refine below_set ?_ GE317.out | refine below_set ?_ GE318.out | refine below_set ?_ GE323.out | refine below_set ?_ GE325.out) | exact HB.out)))); (case aL => have := LMc51.out; omega); intro v330 w62 ho hb hg hat; rw [← Ny329.out] at ho; have n0_ := Aside0.mk (blk_grown (g := gb317) (o := .cells #[.int .i64 a0_0, .slice (some ad324) l0_1.length c0_1] 24 (0, 0)) (by (with_reducible repeat (first | refine blk_drewN ?_ _ | refine blk_drew ?_ | refine blk_alloc ?_ _)); refine blk_far ?_ NB317_325.out _; (with_reducible repeat (first | refine blk_drewN ?_ _ | refine blk_drew ?_ | refine blk_alloc ?_ _)); refine blk_far ?_ NB317_325.out _; (with_reducible repeat (first | refine blk_drewN ?_ _ | refine blk_drew ?_ | refine blk_alloc ?_ _)); exact BK317.out) hg (Kd.R_ne HO_324001.out BK317.out (by decide))); have n1_ := Aside0.mk (blk_grown (g := gb318) (o := .cells #[.int .i64 0, .slice none 0 0] 24 (0, 0)) (by (with_reducible repeat (first | refine blk_drewN ?_ _ | refine blk_drew ?_ | refine blk_alloc ?_ _)); refine blk_far ?_ NB318_325.out _; (with_reducible repeat (first | refine blk_drewN ?_ _ | refine blk_drew ?_ | refine blk_alloc ?_ _)); refine blk_far ?_ NB318_325.out _; (with_reducible repeat (first | refine blk_drewN ?_ _ | refine blk_drew ?_ | refine blk_alloc ?_ _)); exact BK318.out) hg (Kd.R_ne HO_324001.out BK318.out (by decide))); have n2_ := Aside0.mk (blk_grown (g := gb323) (o := .cells #[.int .i64 (wrap64 (a0_0 + 1)), u324001] 24 (0, 0)) (by (with_reducible repeat (first | refine blk_drewN ?_ _ | refine blk_drew ?_ | refine blk_alloc ?_ _)); refine blk_far ?_ NB323_325.out _; (with_reducible repeat (first | refine blk_drewN ?_ _ | refine blk_drew ?_ | refine blk_alloc ?_ _)); refine blk_far ?_ NB323_325.out _; (with_reducible repeat (first | refine blk_drewN ?_ _ | refine blk_drew ?_ | refine blk_alloc ?_ _)); exact BK323.out) hg (Kd.R_ne HO_324001.out BK323.out (by decide))); have n3_ := Aside0.mk (blk_grown (g := gb325) (o := .cells #[.string ((rd_T46 l0_1 x12_2).f0), .int .i64 ((rd_T46 l0_1 x12_2).f1)] 46 (0, 0)) (by (with_reducible repeat (first | refine blk_drewN ?_ _ | refine blk_drew ?_ | refine blk_alloc ?_ _)); refine blk_put (cs := #[.string ((rd_T46 l0_1 x12_2).f0), .int .i64 0]) ?_ 1 _ rfl; (with_reducible repeat (first | refine blk_drewN ?_ _ | refine blk_drew ?_ | refine blk_alloc ?_ _)); refine blk_put (cs := #[.string (⟨#[]⟩ : ByteArray), .int .i64 0]) ?_ 0 _ rfl; (with_reducible repeat (first | refine blk_drewN ?_ _ | refine blk_drew ?_ | refine blk_alloc ?_ _)); exact BK325.out) hg (Kd.R_away HO_324001.out (fun _ hk => hk.2))); have n4_ := Aside0.mk (hb); have n5_ := Aside0.mk (ho); clear BK317; clear BK318; clear BK323; clear BK325; clear HB; clear HO_324001; have BK317 := n0_; have BK318 := n1_; have BK323 := n2_; have BK325 := n3_; have HB := n4_; have HO331 := n5_; clear n0_ n1_ n2_ n3_ n4_ n5_; clear ho hb hg hat; obtain ⟨Ao63, co63, eo63⟩ := Kd.R_slice HO331.out; subst eo63; have hcz64_0 : w62.cell? ⟨gb323, 0, none⟩ = some (.int .i64 (wrap64 (a0_0 + 1))) := (blk_cell BK323.out 0).trans rfl; have hcz64_1 : w62.cell? ⟨gb323, 1, none⟩ = some (u324001) := (blk_cell BK323.out 1).trans rfl; have hfz64_0 := blk_frozen BK323.out 0; have hfz64_1 := blk_frozen BK323.out 1))
            go_roundg k2
            case measure => have := HJ6.out; have := HK2.out; omega
            case rel => exact ⟨(wrap64 (x12_2 + 1)), (y329), (.slice Ao63 y329.length co63), (by first | rfl | (simp; done) | (simp [*]; done) | (simp [ne_nil_bytes]; done) | (simp [eq_nil_bytes]; done)), H', ⟨by have := HJ6.out; have := HK2.out; omega⟩, ⟨by (with_reducible repeat (first | apply Kd.R_alloc | apply Kd.R_drewN | apply Kd.R_drew)); exact Kd.R_mono (Kd.R_far (p := ⟨gb323, 1, none⟩) (Kd.R_types HO331.out BK323.out (by decide)) (fun _ hk => hk.2) (.slice Ao63 y329.length co63)) (fun _ hk => trivial)⟩, ⟨by (with_reducible repeat (first | refine blk_drewN ?_ _ | refine blk_drew ?_ | refine blk_alloc ?_ _)); refine blk_far ?_ NB317_323.out _; (with_reducible repeat (first | refine blk_drewN ?_ _ | refine blk_drew ?_ | refine blk_alloc ?_ _)); exact BK317.out⟩, ⟨by (with_reducible repeat (first | refine blk_drewN ?_ _ | refine blk_drew ?_ | refine blk_alloc ?_ _)); refine blk_far ?_ NB318_323.out _; (with_reducible repeat (first | refine blk_drewN ?_ _ | refine blk_drew ?_ | refine blk_alloc ?_ _)); exact BK318.out⟩, ⟨by (with_reducible repeat (first | refine blk_drewN ?_ _ | refine blk_drew ?_ | refine blk_alloc ?_ _)); refine blk_put (cs := #[.int .i64 (wrap64 (a0_0 + 1)), u324001]) ?_ 1 _ rfl; (with_reducible repeat (first | refine blk_drewN ?_ _ | refine blk_drew ?_ | refine blk_alloc ?_ _)); exact BK323.out⟩, ⟨by repeat (first | (with_reducible first | exact HB.out | apply below_alloc | apply pw_below_drewN | apply below_drew1 | refine below_set ?_ GE317.out | refine below_set ?_ GE318.out | refine below_set ?_ GE323.out | refine below_set ?_ GE325.out) | exact HB.out)⟩⟩
           ·rw [if_neg c51] at H
            exact absurd H (by simp)
         ·rw [if_neg c35] at H
          exact absurd H (by simp)
        ·rw [if_neg c34] at H
         have c34b0 : decide (x12_2 < (l0_1.length : Int)) = false := decide_eq_false c34
         clear c34
         simp only [Option.some.injEq, Prod.mk.injEq] at H
         obtain ⟨rfl, rfl, rfl⟩ := H
         have hnb65 := NB317_318.out
         have hnc65 := NB318_317.out
         have hnb66 := NB317_323.out
         have hnc66 := NB323_317.out
         have hcz67_0 : wr.cell? ⟨gb317, 0, none⟩ = some (.int .i64 a0_0) := (blk_cell BK317.out 0).trans rfl
         have hcz67_1 : wr.cell? ⟨gb317, 1, none⟩ = some (.slice A0_1 l0_1.length c0_1) := (blk_cell BK317.out 1).trans rfl
         have hfz67_0 := blk_frozen BK317.out 0
         have hfz67_1 := blk_frozen BK317.out 1
         have hnb68 := NB323_318.out
         have hnc68 := NB318_323.out
         have hcz69_0 : wr.cell? ⟨gb323, 0, none⟩ = some (.int .i64 (wrap64 (a0_0 + 1))) := (blk_cell BK323.out 0).trans rfl
         have hcz69_1 : wr.cell? ⟨gb323, 1, none⟩ = some (u324001) := (blk_cell BK323.out 1).trans rfl
         have hfz69_0 := blk_frozen BK323.out 0
         have hfz69_1 := blk_frozen BK323.out 1
         have hcz70_0 : wr.cell? ⟨gb318, 0, none⟩ = some (.int .i64 0) := (blk_cell BK318.out 0).trans rfl
         have hcz70_1 : wr.cell? ⟨gb318, 1, none⟩ = some (.slice none 0 0) := (blk_cell BK318.out 1).trans rfl
         have hfz70_0 := blk_frozen BK318.out 0
         have hfz70_1 := blk_frozen BK318.out 1
         obtain ⟨Ao71, co71, eo71⟩ := Kd.R_slice HO_324001.out
         subst eo71
         go_wp2
         refine bodyPost_ret (results_ct rfl _ _ gb318 24 #[.int .i64 (wrap64 (a0_0 + 1)), .slice Ao71 x324001_2.length co71] (0, 0) _ rfl (by (with_reducible repeat (first | refine blk_drewN ?_ _ | refine blk_drew ?_ | refine blk_alloc ?_ _)); refine blk_put (cs := #[.int .i64 (wrap64 (a0_0 + 1)), .slice none 0 0]) ?_ 1 _ rfl; (with_reducible repeat (first | refine blk_drewN ?_ _ | refine blk_drew ?_ | refine blk_alloc ?_ _)); refine blk_put (cs := #[.int .i64 0, .slice none 0 0]) ?_ 0 _ rfl; (with_reducible repeat (first | refine blk_drewN ?_ _ | refine blk_drew ?_ | refine blk_alloc ?_ _)); exact BK318.out) Try.underlying24 rfl (by kernel_rfl)) rfl ?_
         exact ⟨_, by first | rfl | (simp [errW_none, errW_some] <;> rfl) | (simp [*, errW_none, errW_some] <;> rfl), by (with_reducible repeat (first | apply Kd.R_alloc | apply Kd.R_drewN | apply Kd.R_drew)); exact Kd.R_mono (Kd.R_far (p := ⟨gb318, 1, none⟩) (Kd.R_far (p := ⟨gb318, 0, none⟩) (Kd.R_types HO_324001.out BK318.out (by decide)) (fun _ hk => hk.2) (.int .i64 (wrap64 (a0_0 + 1)))) (fun _ hk => hk.2) (.slice Ao71 x324001_2.length co71)) (fun _ hk => trivial), by repeat (first | (with_reducible first | exact HB.out | apply below_alloc | apply pw_below_drewN | apply below_drew1 | refine below_set ?_ GE317.out | refine below_set ?_ GE318.out | refine below_set ?_ GE323.out) | exact HB.out)⟩
 ·rw [if_neg c5] at H
  have c5b0 : (t319 == 0) = false := beq_eq_false_iff_ne.mpr c5
  have c5b1 : (t319 != 0) = true := bne_iff_ne.mpr c5
  simp only [Option.some.injEq, Prod.mk.injEq] at H
  obtain ⟨rfl, rfl, rfl⟩ := H
  go_enter Try.func33, Try.ntmps33
  go_wp2_with (first | ((with_reducible refine gate_dst (N := 3) rfl ?_); refine box_event ?hg (N := 3) ?hd (cs := #[.int .i64 a0_0, .slice A0_1 l0_1.length c0_1]) (t := 24) ?hr ?_; (case hd => rfl); (case hg => rfl); (case hr => first | (go_simp; done) | (go_simp; rfl)); intro gb317 hg w72 hbox hb; have n0_ := Aside0.mk (below_step (by repeat (first | (with_reducible first | exact HB.out | apply below_alloc | apply pw_below_drewN | apply below_drew1) | exact HB.out)) hb); have n1_ := Aside0.mk (hbox); have n2_ := Aside0.mk ((by rw [hg]; exact (below_size (by repeat (first | (with_reducible first | exact HB.out | apply below_alloc | apply pw_below_drewN | apply below_drew1) | exact HB.out))) : w.heap.size ≤ gb317)); have n3_ := Aside0.mk ((by rw [hg]; exact (below_size (by repeat (first | (with_reducible first | exact HB.out | apply below_alloc | apply pw_below_drewN | apply below_drew1) | exact HB.out))) : w.heap.size ≤ gb317)); clear HB; have HB := n0_; have BK317 := n1_; have GW317 := n2_; have GE317 := n3_; clear n0_ n1_ n2_ n3_; clear hb hbox hg) | ((with_reducible refine gate_dst (N := 6) rfl ?_); refine box_event ?hg (N := 6) ?hd (cs := #[.int .i64 0, .slice none 0 0]) (t := 24) ?hr ?_; (case hd => rfl); (case hg => rfl); (case hr => first | (go_simp; done) | (go_simp; rfl)); intro gb318 hg w73 hbox hb; have n0_ := Aside0.mk (blk_below BK317.out hb); have n1_ := Aside0.mk (below_step (by repeat (first | (with_reducible first | exact HB.out | apply below_alloc | apply pw_below_drewN | apply below_drew1 | refine below_set ?_ GE317.out) | exact HB.out)) hb); have n2_ := Aside0.mk (hbox); have n3_ := Aside0.mk ((by rw [hg]; exact (below_size (by repeat (first | (with_reducible first | exact HB.out | apply below_alloc | apply pw_below_drewN | apply below_drew1 | refine below_set ?_ GE317.out) | exact HB.out))) : w.heap.size ≤ gb318)); have n4_ := Aside0.mk ((by rw [hg]; exact (below_size (by repeat (first | (with_reducible first | exact HB.out | apply below_alloc | apply pw_below_drewN | apply below_drew1 | refine below_set ?_ GE317.out) | exact HB.out))) : w.heap.size ≤ gb318)); have n5_ := Aside0.mk ((by rw [hg]; exact Nat.ne_of_lt (blk_lt (g := gb317) (o := .cells #[.int .i64 a0_0, .slice A0_1 l0_1.length c0_1] 24 (0, 0)) (by (with_reducible repeat (first | refine blk_drewN ?_ _ | refine blk_drew ?_ | refine blk_alloc ?_ _)); exact BK317.out)) : gb317 ≠ gb318)); have n6_ := Aside0.mk ((by rw [hg]; exact Nat.ne_of_gt (blk_lt (g := gb317) (o := .cells #[.int .i64 a0_0, .slice A0_1 l0_1.length c0_1] 24 (0, 0)) (by (with_reducible repeat (first | refine blk_drewN ?_ _ | refine blk_drew ?_ | refine blk_alloc ?_ _)); exact BK317.out)) : gb318 ≠ gb317)); clear BK317; clear HB; have BK317 := n0_; have HB := n1_; have BK318 := n2_; have GW318 := n3_; have GE318 := n4_; have NB317_318 := n5_; have NB318_317 := n6_; clear n0_ n1_ n2_ n3_ n4_ n5_ n6_; clear hb hbox hg; have hnb74 := NB317_318.out; have hnc74 := NB318_317.out; have hcz75_0 : w73.cell? ⟨gb317, 0, none⟩ = some (.int .i64 a0_0) := (blk_cell BK317.out 0).trans rfl; have hcz75_1 : w73.cell? ⟨gb317, 1, none⟩ = some (.slice A0_1 l0_1.length c0_1) := (blk_cell BK317.out 1).trans rfl; have hfz75_0 := blk_frozen BK317.out 0; have hfz75_1 := blk_frozen BK317.out 1) | ((with_reducible refine gate_callee (f := 18) rfl ?_); refine goesL_ (some 15) rfl rfl Try.func18 (by kernel_rfl) rfl #[.agg #[.int .i64 a0_0, .slice A0_1 l0_1.length c0_1]] rfl (by (try simp only [List.map_toArray, List.map_cons, List.map_nil]); first | done | rfl | (simp only [List.length_drop, List.length_take]; rfl)) ?_; (with_reducible refine (shelfmarkref12_Check.calls k a0_0 _ _ l0_1 t319 _ ?side1 ?side2 A4.out).mono ?_); (case side1 => repeat (first | exact (Kd.C_below HR0_1.out HB.out) | (with_reducible refine Kd.C_alloc ?_ _) | (with_reducible refine Kd.C_drewN ?_ _) | (with_reducible refine Kd.C_drew ?_))); (case side2 => exact HC0_1.out); rintro e w76 ⟨rfl, hb⟩; refine ⟨_, rfl, ?_⟩; have n0_ := Aside0.mk (blk_below BK317.out hb); have n1_ := Aside0.mk (blk_below BK318.out hb); have n2_ := Aside0.mk (below_step (by repeat (first | (with_reducible first | exact HB.out | apply below_alloc | apply pw_below_drewN | apply below_drew1 | refine below_set ?_ GE317.out | refine below_set ?_ GE318.out) | exact HB.out)) hb); clear BK317; clear BK318; clear HB; have BK317 := n0_; have BK318 := n1_; have HB := n2_; clear n0_ n1_ n2_; (try clear hb); (try clear hb2); (try clear hk); (try clear hi); have hcz77_0 : w76.cell? ⟨gb318, 0, none⟩ = some (.int .i64 0) := (blk_cell BK318.out 0).trans rfl; have hcz77_1 : w76.cell? ⟨gb318, 1, none⟩ = some (.slice none 0 0) := (blk_cell BK318.out 1).trans rfl; have hfz77_0 := blk_frozen BK318.out 0; have hfz77_1 := blk_frozen BK318.out 1))
  refine bodyPost_ret (results_ct rfl _ _ gb318 24 #[.int .i64 0, .slice none 0 0] (0, 0) _ rfl (by (with_reducible repeat (first | refine blk_drewN ?_ _ | refine blk_drew ?_ | refine blk_alloc ?_ _)); refine blk_put (cs := #[.int .i64 0, .slice none 0 0]) ?_ 1 _ rfl; (with_reducible repeat (first | refine blk_drewN ?_ _ | refine blk_drew ?_ | refine blk_alloc ?_ _)); refine blk_put (cs := #[.int .i64 0, .slice none 0 0]) ?_ 0 _ rfl; (with_reducible repeat (first | refine blk_drewN ?_ _ | refine blk_drew ?_ | refine blk_alloc ?_ _)); exact BK318.out) Try.underlying24 rfl (by kernel_rfl)) rfl ?_
  exact ⟨_, by first | rfl | (simp [errW_none, errW_some] <;> rfl) | (simp [*, errW_none, errW_some] <;> rfl), by first | exact Kd.R_nil _ _ _ _ _ | exact Kd.N_nil _ _ _ _ _ | exact Kd.V_nil _ _ _ _ _ | exact Kd.Q_nil _ _ _ _ _ | exact Kd.S_nil _ _ _ _ _, by repeat (first | (with_reducible first | exact HB.out | apply below_alloc | apply pw_below_drewN | apply below_drew1 | refine below_set ?_ GE317.out | refine below_set ?_ GE318.out) | exact HB.out)⟩

end Go.Proofs.Ytmgjccpolkhhhaa.PAll
