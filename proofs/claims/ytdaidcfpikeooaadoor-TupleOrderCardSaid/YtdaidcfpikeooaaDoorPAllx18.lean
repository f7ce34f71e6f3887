-- Written by a program of this session for this claim (mp.py, over the kit's print); Lean checks it.
import Derived.Test.YtdaidcfpikeooaaDoorPAllx0
import Derived.Test.YtdaidcfpikeooaaDoorPAllx3
import Derived.Test.YtdaidcfpikeooaaDoorPAllx6
import Derived.Test.YtdaidcfpikeooaaDoorPAllx15
namespace Go.Proofs.YtdaidcfpikeooaaDoor.PAll
open Go.RowKit Go.Proofs.YtdaidcfpikeooaaDoorW.PrintWords Go.Proofs.YtdaidcfpikeooaaDoorW.PrintLast Go.Proofs.YtdaidcfpikeooaaDoorW.PrintMore Go.Proofs.YtdaidcfpikeooaaDoor.Fv Go.Proofs.YtdaidcfpikeooaaDoor.Hl
attribute [local go_sem] max2_int min2_int max_two min_two max_three min_three max_four min_four str_gtr str_leq str_geq   -- for this text's walks alone
set_option linter.unusedVariables false
set_option linter.unusedSimpArgs false

/-! ### shelfmarklaw03_TupleOrder: function 7 -/
mutual
def shelfmarklaw03_TupleOrder.j0 : Nat → List (S37) → List (S37) → Bool → Option (Bool)
  | 0, _, _, _ => none
  | k + 1, x0, x1, x19 => if x19 = true then (some true) else ((tuple_Key.f k x0).bind fun bt308 => ((tuple_Key.f k x1).bind fun bt310 => (if bt308.2 = 0 then (shelfmarklaw03_TupleOrder.j1 k x0 x1 bt308.1 bt310.1 (bt310.2 != 0)) else (shelfmarklaw03_TupleOrder.j1 k x0 x1 bt308.1 bt310.1 true))))
def shelfmarklaw03_TupleOrder.j1 : Nat → List (S37) → List (S37) → ByteArray → ByteArray → Bool → Option (Bool)
  | 0, _, _, _, _, _ => none
  | k + 1, x0, x1, x5, x7, x35 => if x35 = true then ((tuple_Compare.f k x0 x1).bind fun t312 => (some (t312 == 0))) else ((tuple_Compare.f k x0 x1).bind fun t313 => (if ((decide (t313 < 0)) == (Op.bytesLess x5.toList x7.toList)) = true then (if ((decide (t313 > 0)) == (Op.bytesLess x7.toList x5.toList)) = true then ((tuple_Compare.f k x1 x0).bind fun t314 => (some (t314 == (wrap64 (-t313))))) else (some false)) else (some false)))
end
def shelfmarklaw03_TupleOrder.f (k : Nat) (l0 : List (S37)) (l1 : List (S37)) : Option (Bool) := (shelfmarklaw03_awake.f k).bind fun t305 => (if t305 = true then ((shelfmarkref03_Light.f k l0 2000).bind fun t306 => (if t306 = true then ((shelfmarkref03_Light.f k l1 2000).bind fun t307 => (shelfmarklaw03_TupleOrder.j0 k l0 l1 (!t307))) else (shelfmarklaw03_TupleOrder.j0 k l0 l1 true))) else (some false))
theorem shelfmarklaw03_TupleOrder.mono_l : ∀ k, (∀ y0 y1 y2, LeO (shelfmarklaw03_TupleOrder.j0 k y0 y1 y2) (shelfmarklaw03_TupleOrder.j0 (k + 1) y0 y1 y2)) ∧ (∀ y0 y1 y2 y3 y4, LeO (shelfmarklaw03_TupleOrder.j1 k y0 y1 y2 y3 y4) (shelfmarklaw03_TupleOrder.j1 (k + 1) y0 y1 y2 y3 y4))
  | 0 => ⟨fun _ _ _ r h => by simp [shelfmarklaw03_TupleOrder.j0] at h, fun _ _ _ _ _ r h => by simp [shelfmarklaw03_TupleOrder.j1] at h⟩
  | k + 1 => by
    obtain ⟨ih0, ih1⟩ := shelfmarklaw03_TupleOrder.mono_l k
    refine ⟨?_, ?_⟩
    · intro y0 y1 y2
      unfold shelfmarklaw03_TupleOrder.j0
      repeat' first
      | (with_reducible exact ih0 _ _ _)
      | (with_reducible exact ih1 _ _ _ _ _)
      | (with_reducible exact shelfmarklaw03_awake.mono _)
      | (with_reducible exact shelfmarkref03_Light.mono _ _ _)
      | (with_reducible exact tuple_Compare.mono _ _ _)
      | (with_reducible exact tuple_Key.mono _ _)
      | (with_reducible exact LeO.refl _)
      | (with_reducible exact LeO.none _)
      | (with_reducible refine LeO.ite ?_ ?_)
      | (with_reducible refine LeO.bind ?_ (fun _ => ?_))
      | exact ih0 _ _ _
      | exact ih1 _ _ _ _ _
      | exact shelfmarklaw03_awake.mono _
      | exact shelfmarkref03_Light.mono _ _ _
      | exact tuple_Compare.mono _ _ _
      | exact tuple_Key.mono _ _
      | exact LeO.none _
      | refine LeO.ite ?_ ?_
      | refine LeO.bind ?_ (fun _ => ?_)
    · intro y0 y1 y2 y3 y4
      unfold shelfmarklaw03_TupleOrder.j1
      repeat' first
      | (with_reducible exact ih0 _ _ _)
      | (with_reducible exact ih1 _ _ _ _ _)
      | (with_reducible exact shelfmarklaw03_awake.mono _)
      | (with_reducible exact shelfmarkref03_Light.mono _ _ _)
      | (with_reducible exact tuple_Compare.mono _ _ _)
      | (with_reducible exact tuple_Key.mono _ _)
      | (with_reducible exact LeO.refl _)
      | (with_reducible exact LeO.none _)
      | (with_reducible refine LeO.ite ?_ ?_)
      | (with_reducible refine LeO.bind ?_ (fun _ => ?_))
      | exact ih0 _ _ _
      | exact ih1 _ _ _ _ _
      | exact shelfmarklaw03_awake.mono _
      | exact shelfmarkref03_Light.mono _ _ _
      | exact tuple_Compare.mono _ _ _
      | exact tuple_Key.mono _ _
      | exact LeO.none _
      | refine LeO.ite ?_ ?_
      | refine LeO.bind ?_ (fun _ => ?_)
theorem shelfmarklaw03_TupleOrder.mono : ∀ a0 a1 k, LeO (shelfmarklaw03_TupleOrder.f k a0 a1) (shelfmarklaw03_TupleOrder.f (k + 1) a0 a1) := by
  intro a0 a1 k
  obtain ⟨ih0, ih1⟩ := shelfmarklaw03_TupleOrder.mono_l k
  unfold shelfmarklaw03_TupleOrder.f
  repeat' first
      | (with_reducible exact ih0 _ _ _)
      | (with_reducible exact ih1 _ _ _ _ _)
      | (with_reducible exact shelfmarklaw03_awake.mono _)
      | (with_reducible exact shelfmarkref03_Light.mono _ _ _)
      | (with_reducible exact tuple_Compare.mono _ _ _)
      | (with_reducible exact tuple_Key.mono _ _)
      | (with_reducible exact LeO.refl _)
      | (with_reducible exact LeO.none _)
      | (with_reducible refine LeO.ite ?_ ?_)
      | (with_reducible refine LeO.bind ?_ (fun _ => ?_))
      | exact ih0 _ _ _
      | exact ih1 _ _ _ _ _
      | exact shelfmarklaw03_awake.mono _
      | exact shelfmarkref03_Light.mono _ _ _
      | exact tuple_Compare.mono _ _ _
      | exact tuple_Key.mono _ _
      | exact LeO.none _
      | refine LeO.ite ?_ ?_
      | refine LeO.bind ?_ (fun _ => ?_)
set_option maxHeartbeats 3000000 in
set_option maxRecDepth 100000 in
theorem shelfmarklaw03_TupleOrder.calls (k : Nat) (A0 : Option Addr) (c0 : Nat) (l0 : List (S37)) (A1 : Option Addr) (c1 : Nat) (l1 : List (S37)) (r : Bool) (w : World) (hr0 : Kd.C k37 w A0 l0.length l0) (hc0 : l0.length ≤ c0) (hr1 : Kd.C k37 w A1 l1.length l1) (hc1 : l1.length ≤ c1) (h : shelfmarklaw03_TupleOrder.f k l0 l1 = some r) :
    Calls Tryd.prog 7 #[.slice A0 l0.length c0, .slice A1 l1.length c1] w fun e w' => e = .returned (.bool r) ∧ Below w.heap.size w w' := by
  have HR0 := Aside0.mk hr0
  have HC0 := Aside0.mk hc0
  clear hr0 hc0
  have HR1 := Aside0.mk hr1
  have HC1 := Aside0.mk hc1
  clear hr1 hc1
  have HB := Aside0.mk (Below.refl w.heap.size w)
  have H : ((shelfmarklaw03_awake.f k).bind fun t305 => (if t305 = true then ((shelfmarkref03_Light.f k l0 2000).bind fun t306 => (if t306 = true then ((shelfmarkref03_Light.f k l1 2000).bind fun t307 => (shelfmarklaw03_TupleOrder.j0 k l0 l1 (!t307))) else (shelfmarklaw03_TupleOrder.j0 k l0 l1 true))) else (some false))) = some r := h
  clear h
  replace H := Option.bind_eq_some_iff.mp H
  obtain ⟨t305, A30, H⟩ := H
  replace H : (if t305 = true then ((shelfmarkref03_Light.f k l0 2000).bind fun t306 => (if t306 = true then ((shelfmarkref03_Light.f k l1 2000).bind fun t307 => (shelfmarklaw03_TupleOrder.j0 k l0 l1 (!t307))) else (shelfmarklaw03_TupleOrder.j0 k l0 l1 true))) else (some false)) = some r := H
  have A3 := Aside0.mk A30
  clear A30
  by_cases c4 : t305 = true
  · subst c4
    have H1 : ((shelfmarkref03_Light.f k l0 2000).bind fun t306 => (if t306 = true then ((shelfmarkref03_Light.f k l1 2000).bind fun t307 => (shelfmarklaw03_TupleOrder.j0 k l0 l1 (!t307))) else (shelfmarklaw03_TupleOrder.j0 k l0 l1 true))) = some r := by rw [if_pos rfl] at H; exact H
    clear H
    have H := H1
    clear H1
    have HC5 := Aside0.mk H
    clear H
    go_enter Tryd.func7, Tryd.ntmps7
    go_upto_region 3 with (first | ((with_reducible refine gate_callee (f := 8) rfl ?_); refine goesL_ (some 10) rfl rfl Tryd.func8 (by kernel_rfl) rfl #[] rfl (by (try simp only [List.map_toArray, List.map_cons, List.map_nil]); first | done | rfl | (simp only [List.length_drop, List.length_take]; rfl)) ?_; (with_reducible refine (shelfmarklaw03_awake.calls k  true _ A3.out).mono ?_); rintro e w6 ⟨rfl, hb⟩; refine ⟨_, rfl, ?_⟩; have n0_ := Aside0.mk (below_step (by repeat (first | (with_reducible first | exact HB.out | apply below_alloc | apply pw_below_drewN | apply below_drew1) | exact HB.out)) hb); clear HB; have HB := n0_; clear n0_; (try clear hb); (try clear hb2); (try clear hk); (try clear hi)))
    (try simp only [Act.put, List.setIfInBounds_toArray, List.set_cons_zero, List.set_cons_succ])
    go_cut [19] (fun v19 wc => ∃ (kq : Nat) (x19_4 : Bool), v19 = .bool x19_4 ∧ Aside0 (shelfmarklaw03_TupleOrder.j0 kq l0 l1 x19_4 = some r) ∧ Aside0 (kq ≤ k) ∧ Aside0 (Below w.heap.size w wc))
    case first =>
      have H := HC5.out
      clear HC5
      replace H := Option.bind_eq_some_iff.mp H
      obtain ⟨t306, A70, H⟩ := H
      replace H : (if t306 = true then ((shelfmarkref03_Light.f k l1 2000).bind fun t307 => (shelfmarklaw03_TupleOrder.j0 k l0 l1 (!t307))) else (shelfmarklaw03_TupleOrder.j0 k l0 l1 true)) = some r := H
      have A7 := Aside0.mk A70
      clear A70
      by_cases c8 : t306 = true
      · subst c8
        have H1 : ((shelfmarkref03_Light.f k l1 2000).bind fun t307 => (shelfmarklaw03_TupleOrder.j0 k l0 l1 (!t307))) = some r := by rw [if_pos rfl] at H; exact H
        clear H
        have H := H1
        clear H1
        replace H := Option.bind_eq_some_iff.mp H
        obtain ⟨t307, A90, H⟩ := H
        replace H : (shelfmarklaw03_TupleOrder.j0 k l0 l1 (!t307)) = some r := H
        have A9 := Aside0.mk A90
        clear A90
        have H' := Aside0.mk H
        clear H
        go_wp2_with (first | ((with_reducible refine gate_callee (f := 9) rfl ?_); refine goesL_ (some 13) rfl rfl Tryd.func9 (by kernel_rfl) rfl #[.slice A0 l0.length c0, .int .i64 2000] rfl (by (try simp only [List.map_toArray, List.map_cons, List.map_nil]); first | done | rfl | (simp only [List.length_drop, List.length_take]; rfl)) ?_; (with_reducible refine (shelfmarkref03_Light.calls k _ _ l0 2000 true _ ?side1 ?side2 A7.out).mono ?_); (case side1 => repeat (first | exact (Kd.C_below HR0.out HB.out) | (with_reducible refine Kd.C_alloc ?_ _) | (with_reducible refine Kd.C_drewN ?_ _) | (with_reducible refine Kd.C_drew ?_))); (case side2 => exact HC0.out); rintro e w' ⟨rfl, ⟨nd, rfl⟩⟩; refine ⟨_, rfl, ?_⟩) | (go_at_call 9; (with_reducible refine (shelfmarkref03_Light.calls k _ _ l1 2000 t307 _ ?side1 ?side2 A9.out).mono ?_); (case side1 => repeat (first | exact (Kd.C_below HR1.out (by repeat (first | (with_reducible first | exact HB.out | apply below_alloc | apply pw_below_drewN | apply below_drew1) | exact HB.out))) | (with_reducible refine Kd.C_alloc ?_ _) | (with_reducible refine Kd.C_drewN ?_ _) | (with_reducible refine Kd.C_drew ?_))); (case side2 => exact HC1.out); rintro e w' ⟨rfl, ⟨nd, rfl⟩⟩))
        go_meet
        case rel => exact ⟨_, (!t307), (by first | rfl | (simp; done) | (simp [*]; done) | (simp [ne_nil_bytes]; done) | (simp [eq_nil_bytes]; done)), H', ⟨by first | omega | exact Nat.le_refl _⟩, ⟨by repeat (first | (with_reducible first | exact HB.out | apply below_alloc | apply pw_below_drewN | apply below_drew1) | exact HB.out)⟩⟩
      · replace c8 := Bool.eq_false_iff.mpr c8
        subst c8
        have H1 : (shelfmarklaw03_TupleOrder.j0 k l0 l1 true) = some r := by rw [if_neg (show ¬ (false = true) by decide)] at H; exact H
        clear H
        have H := H1
        clear H1
        have H' := Aside0.mk H
        clear H
        go_wp2_with (first | ((with_reducible refine gate_callee (f := 9) rfl ?_); refine goesL_ (some 13) rfl rfl Tryd.func9 (by kernel_rfl) rfl #[.slice A0 l0.length c0, .int .i64 2000] rfl (by (try simp only [List.map_toArray, List.map_cons, List.map_nil]); first | done | rfl | (simp only [List.length_drop, List.length_take]; rfl)) ?_; (with_reducible refine (shelfmarkref03_Light.calls k _ _ l0 2000 false _ ?side1 ?side2 A7.out).mono ?_); (case side1 => repeat (first | exact (Kd.C_below HR0.out HB.out) | (with_reducible refine Kd.C_alloc ?_ _) | (with_reducible refine Kd.C_drewN ?_ _) | (with_reducible refine Kd.C_drew ?_))); (case side2 => exact HC0.out); rintro e w' ⟨rfl, ⟨nd, rfl⟩⟩; refine ⟨_, rfl, ?_⟩))
        go_meet
        case rel => exact ⟨_, (true), (by first | rfl | (simp; done) | (simp [*]; done) | (simp [ne_nil_bytes]; done) | (simp [eq_nil_bytes]; done)), H', ⟨by first | omega | exact Nat.le_refl _⟩, ⟨by repeat (first | (with_reducible first | exact HB.out | apply below_alloc | apply pw_below_drewN | apply below_drew1) | exact HB.out)⟩⟩
    case rest =>
      clear HC5
      try clear c1
      try clear p2
      try clear c4
      try clear c7
      try clear c8
      try clear c9
      obtain ⟨kq, x19_4, rfl, HA, HJ4, HB⟩ := hcut
      cases kq with
      | zero => exact absurd HA.out (by simp [shelfmarklaw03_TupleOrder.j0])
      | succ kj4 =>
        have H := HA.out
        clear HA
        simp only [shelfmarklaw03_TupleOrder.j0] at H
        by_cases c10 : x19_4 = true
        · subst c10
          have H1 : (some true) = some r := by rw [if_pos rfl] at H; exact H
          clear H
          have H := H1
          clear H1
          obtain rfl := Option.some.inj H
          go_wp2
          go_ret
          exact ⟨by first | rfl | (simp [errW_none, errW_some] <;> rfl) | (simp [*, errW_none, errW_some] <;> rfl), by repeat (first | (with_reducible first | exact HB.out | apply below_alloc | apply pw_below_drewN | apply below_drew1) | exact HB.out)⟩
        · replace c10 := Bool.eq_false_iff.mpr c10
          subst c10
          have H1 : ((tuple_Key.f kj4 l0).bind fun bt308 => ((tuple_Key.f kj4 l1).bind fun bt310 => (if bt308.2 = 0 then (shelfmarklaw03_TupleOrder.j1 kj4 l0 l1 bt308.1 bt310.1 (bt310.2 != 0)) else (shelfmarklaw03_TupleOrder.j1 kj4 l0 l1 bt308.1 bt310.1 true)))) = some r := by rw [if_neg (show ¬ (false = true) by decide)] at H; exact H
          clear H
          have H := H1
          clear H1
          replace H := Option.bind_eq_some_iff.mp H
          obtain ⟨⟨t308, t309⟩, A110, H⟩ := H
          replace H : ((tuple_Key.f kj4 l1).bind fun bt310 => (if t309 = 0 then (shelfmarklaw03_TupleOrder.j1 kj4 l0 l1 t308 bt310.1 (bt310.2 != 0)) else (shelfmarklaw03_TupleOrder.j1 kj4 l0 l1 t308 bt310.1 true))) = some r := H
          have A11 := Aside0.mk A110
          clear A110
          replace H := Option.bind_eq_some_iff.mp H
          obtain ⟨⟨t310, t311⟩, A120, H⟩ := H
          replace H : (if t309 = 0 then (shelfmarklaw03_TupleOrder.j1 kj4 l0 l1 t308 t310 (t311 != 0)) else (shelfmarklaw03_TupleOrder.j1 kj4 l0 l1 t308 t310 true)) = some r := H
          have A12 := Aside0.mk A120
          clear A120
          have HC13 := Aside0.mk H
          clear H
          go_upto_region 7 with (first | ((with_reducible refine gate_callee (f := 10) rfl ?_); refine goesL_ (some 22) rfl rfl Tryd.func10 (by kernel_rfl) rfl #[.slice A0 l0.length c0] rfl (by (try simp only [List.map_toArray, List.map_cons, List.map_nil]); first | done | rfl | (simp only [List.length_drop, List.length_take]; rfl)) ?_; (with_reducible refine (tuple_Key.calls kj4 _ _ l0 t308 t309 _ ?side1 ?side2 A11.out).mono ?_); (case side1 => repeat (first | exact (Kd.C_below HR0.out HB.out) | (with_reducible refine Kd.C_alloc ?_ _) | (with_reducible refine Kd.C_drewN ?_ _) | (with_reducible refine Kd.C_drew ?_))); (case side2 => exact HC0.out); rintro e w14 ⟨rfl, hb⟩; refine ⟨_, rfl, ?_⟩; have n0_ := Aside0.mk (below_step (by repeat (first | (with_reducible first | exact HB.out | apply below_alloc | apply pw_below_drewN | apply below_drew1) | exact HB.out)) hb); clear HB; have HB := n0_; clear n0_; (try clear hb); (try clear hb2); (try clear hk); (try clear hi)) | ((with_reducible refine gate_callee (f := 10) rfl ?_); refine goesL_ (some 27) rfl rfl Tryd.func10 (by kernel_rfl) rfl #[.slice A1 l1.length c1] rfl (by (try simp only [List.map_toArray, List.map_cons, List.map_nil]); first | done | rfl | (simp only [List.length_drop, List.length_take]; rfl)) ?_; (with_reducible refine (tuple_Key.calls kj4 _ _ l1 t310 t311 _ ?side1 ?side2 A12.out).mono ?_); (case side1 => repeat (first | exact (Kd.C_below HR1.out HB.out) | (with_reducible refine Kd.C_alloc ?_ _) | (with_reducible refine Kd.C_drewN ?_ _) | (with_reducible refine Kd.C_drew ?_))); (case side2 => exact HC1.out); rintro e w15 ⟨rfl, hb⟩; refine ⟨_, rfl, ?_⟩; have n0_ := Aside0.mk (below_step (by repeat (first | (with_reducible first | exact HB.out | apply below_alloc | apply pw_below_drewN | apply below_drew1) | exact HB.out)) hb); clear HB; have HB := n0_; clear n0_; (try clear hb); (try clear hb2); (try clear hk); (try clear hi)))
          (try simp only [Act.put, List.setIfInBounds_toArray, List.set_cons_zero, List.set_cons_succ])
          go_cut [35] (fun v35 wc => ∃ (kq : Nat) (x35_12 : Bool), v35 = .bool x35_12 ∧ Aside0 (shelfmarklaw03_TupleOrder.j1 kq l0 l1 t308 t310 x35_12 = some r) ∧ Aside0 (kq ≤ kj4) ∧ Aside0 (Below w.heap.size w wc))
          case first =>
            have H := HC13.out
            clear HC13
            by_cases c16 : t309 = 0
            · rw [if_pos c16] at H
              have c16b0 : (t309 == 0) = true := beq_iff_eq.mpr c16
              have c16b1 : (t309 != 0) = false := bne_eq_false_iff_eq.mpr c16
              clear c16
              (first | rw [c16b0] | (simp only [i64_w, i32_w]; rw [c16b0]) | skip)
              have H' := Aside0.mk H
              clear H
              go_wp2
              go_meet
              case rel => exact ⟨_, ((t311 != 0)), (by first | rfl | (simp; done) | (simp [*]; done) | (simp [ne_nil_bytes]; done) | (simp [eq_nil_bytes]; done)), H', ⟨by have := HJ4.out; first | omega | exact Nat.le_refl _⟩, ⟨by repeat (first | (with_reducible first | exact HB.out | apply below_alloc | apply pw_below_drewN | apply below_drew1) | exact HB.out)⟩⟩
            · rw [if_neg c16] at H
              have c16b0 : (t309 == 0) = false := beq_eq_false_iff_ne.mpr c16
              have c16b1 : (t309 != 0) = true := bne_iff_ne.mpr c16
              (first | rw [c16b0] | (simp only [i64_w, i32_w]; rw [c16b0]) | skip)
              have H' := Aside0.mk H
              clear H
              go_wp2
              go_meet
              case rel => exact ⟨_, (true), (by first | rfl | (simp; done) | (simp [*]; done) | (simp [ne_nil_bytes]; done) | (simp [eq_nil_bytes]; done)), H', ⟨by have := HJ4.out; first | omega | exact Nat.le_refl _⟩, ⟨by repeat (first | (with_reducible first | exact HB.out | apply below_alloc | apply pw_below_drewN | apply below_drew1) | exact HB.out)⟩⟩
          case rest =>
            clear HC13
            try clear c1
            try clear p2
            try clear c4
            try clear c7
            try clear c8
            try clear c9
            try clear c10
            try clear c16
            try clear c16b0
            try clear c16b0z
            try clear c16b1
            try clear c16b1z
            try clear p2
            obtain ⟨kq, x35_12, rfl, HA, HJ12, HB⟩ := hcut
            cases kq with
            | zero => exact absurd HA.out (by simp [shelfmarklaw03_TupleOrder.j1])
            | succ kj12 =>
              have H := HA.out
              clear HA
              simp only [shelfmarklaw03_TupleOrder.j1] at H
              by_cases c17 : x35_12 = true
              · subst c17
                have H1 : ((tuple_Compare.f kj12 l0 l1).bind fun t312 => (some (t312 == 0))) = some r := by rw [if_pos rfl] at H; exact H
                clear H
                have H := H1
                clear H1
                replace H := Option.bind_eq_some_iff.mp H
                obtain ⟨t312, A180, H⟩ := H
                replace H : (some (t312 == 0)) = some r := H
                have A18 := Aside0.mk A180
                clear A180
                obtain rfl := Option.some.inj H
                go_wp2_with (first | ((with_reducible refine gate_callee (f := 19) rfl ?_); refine goesL_ (some 38) rfl rfl Tryd.func19 (by kernel_rfl) rfl #[.slice A0 l0.length c0, .slice A1 l1.length c1] rfl (by (try simp only [List.map_toArray, List.map_cons, List.map_nil]); first | done | rfl | (simp only [List.length_drop, List.length_take]; rfl)) ?_; (with_reducible refine (tuple_Compare.calls kj12 _ _ l0 _ _ l1 t312 _ ?side1 ?side2 ?side3 ?side4 A18.out).mono ?_); (case side1 => repeat (first | exact (Kd.C_below HR0.out HB.out) | (with_reducible refine Kd.C_alloc ?_ _) | (with_reducible refine Kd.C_drewN ?_ _) | (with_reducible refine Kd.C_drew ?_))); (case side2 => exact HC0.out); (case side3 => repeat (first | exact (Kd.C_below HR1.out HB.out) | (with_reducible refine Kd.C_alloc ?_ _) | (with_reducible refine Kd.C_drewN ?_ _) | (with_reducible refine Kd.C_drew ?_))); (case side4 => exact HC1.out); rintro e w19 ⟨rfl, hb⟩; refine ⟨_, rfl, ?_⟩; have n0_ := Aside0.mk (below_step (by repeat (first | (with_reducible first | exact HB.out | apply below_alloc | apply pw_below_drewN | apply below_drew1) | exact HB.out)) hb); clear HB; have HB := n0_; clear n0_; (try clear hb); (try clear hb2); (try clear hk); (try clear hi)))
                go_ret
                exact ⟨by first | rfl | (simp [errW_none, errW_some] <;> rfl) | (simp [*, errW_none, errW_some] <;> rfl), by repeat (first | (with_reducible first | exact HB.out | apply below_alloc | apply pw_below_drewN | apply below_drew1) | exact HB.out)⟩
              · replace c17 := Bool.eq_false_iff.mpr c17
                subst c17
                have H1 : ((tuple_Compare.f kj12 l0 l1).bind fun t313 => (if ((decide (t313 < 0)) == (Op.bytesLess t308.toList t310.toList)) = true then (if ((decide (t313 > 0)) == (Op.bytesLess t310.toList t308.toList)) = true then ((tuple_Compare.f kj12 l1 l0).bind fun t314 => (some (t314 == (wrap64 (-t313))))) else (some false)) else (some false))) = some r := by rw [if_neg (show ¬ (false = true) by decide)] at H; exact H
                clear H
                have H := H1
                clear H1
                replace H := Option.bind_eq_some_iff.mp H
                obtain ⟨t313, A200, H⟩ := H
                replace H : (if ((decide (t313 < 0)) == (Op.bytesLess t308.toList t310.toList)) = true then (if ((decide (t313 > 0)) == (Op.bytesLess t310.toList t308.toList)) = true then ((tuple_Compare.f kj12 l1 l0).bind fun t314 => (some (t314 == (wrap64 (-t313))))) else (some false)) else (some false)) = some r := H
                have A20 := Aside0.mk A200
                clear A200
                by_cases c21 : ((decide (t313 < 0)) == (Op.bytesLess t308.toList t310.toList)) = true
                · rw [if_pos c21] at H
                  have c21b0 : ((decide (t313 < 0)) == (Op.bytesLess t308.toList t310.toList)) = true := c21
                  (try (have c21b1 : decide ((decide (t313 < 0)) = (Op.bytesLess t308.toList t310.toList)) = true := by simpa using c21))
                  (try (have c21b2 : ((decide (t313 < 0)) == (Op.bytesLess t308.toList t310.toList)) = true := by simpa using c21))
                  clear c21
                  by_cases c22 : ((decide (t313 > 0)) == (Op.bytesLess t310.toList t308.toList)) = true
                  · rw [if_pos c22] at H
                    have c22b0 : ((decide (t313 > 0)) == (Op.bytesLess t310.toList t308.toList)) = true := c22
                    (try (have c22b1 : decide ((decide (t313 > 0)) = (Op.bytesLess t310.toList t308.toList)) = true := by simpa using c22))
                    (try (have c22b2 : ((decide (t313 > 0)) == (Op.bytesLess t310.toList t308.toList)) = true := by simpa using c22))
                    clear c22
                    replace H := Option.bind_eq_some_iff.mp H
                    obtain ⟨t314, A230, H⟩ := H
                    replace H : (some (t314 == (wrap64 (-t313)))) = some r := H
                    have A23 := Aside0.mk A230
                    clear A230
                    obtain rfl := Option.some.inj H
                    go_wp2_with (first | ((with_reducible refine gate_callee (f := 19) rfl ?_); refine goesL_ (some 42) rfl rfl Tryd.func19 (by kernel_rfl) rfl #[.slice A0 l0.length c0, .slice A1 l1.length c1] rfl (by (try simp only [List.map_toArray, List.map_cons, List.map_nil]); first | done | rfl | (simp only [List.length_drop, List.length_take]; rfl)) ?_; (with_reducible refine (tuple_Compare.calls kj12 _ _ l0 _ _ l1 t313 _ ?side1 ?side2 ?side3 ?side4 A20.out).mono ?_); (case side1 => repeat (first | exact (Kd.C_below HR0.out HB.out) | (with_reducible refine Kd.C_alloc ?_ _) | (with_reducible refine Kd.C_drewN ?_ _) | (with_reducible refine Kd.C_drew ?_))); (case side2 => exact HC0.out); (case side3 => repeat (first | exact (Kd.C_below HR1.out HB.out) | (with_reducible refine Kd.C_alloc ?_ _) | (with_reducible refine Kd.C_drewN ?_ _) | (with_reducible refine Kd.C_drew ?_))); (case side4 => exact HC1.out); rintro e w24 ⟨rfl, hb⟩; refine ⟨_, rfl, ?_⟩; have n0_ := Aside0.mk (below_step (by repeat (first | (with_reducible first | exact HB.out | apply below_alloc | apply pw_below_drewN | apply below_drew1) | exact HB.out)) hb); clear HB; have HB := n0_; clear n0_; (try clear hb); (try clear hb2); (try clear hk); (try clear hi)) | (go_at_call 19; (with_reducible refine (tuple_Compare.calls kj12 _ _ l1 _ _ l0 t314 _ ?side1 ?side2 ?side3 ?side4 A23.out).mono ?_); (case side1 => repeat (first | exact (Kd.C_below HR1.out HB.out) | (with_reducible refine Kd.C_alloc ?_ _) | (with_reducible refine Kd.C_drewN ?_ _) | (with_reducible refine Kd.C_drew ?_))); (case side2 => exact HC1.out); (case side3 => repeat (first | exact (Kd.C_below HR0.out HB.out) | (with_reducible refine Kd.C_alloc ?_ _) | (with_reducible refine Kd.C_drewN ?_ _) | (with_reducible refine Kd.C_drew ?_))); (case side4 => exact HC0.out); rintro e w25 ⟨rfl, hb⟩; have n0_ := Aside0.mk (below_step (by repeat (first | (with_reducible first | exact HB.out | apply below_alloc | apply pw_below_drewN | apply below_drew1) | exact HB.out)) hb); clear HB; have HB := n0_; clear n0_; (try clear hb); (try clear hb2); (try clear hk); (try clear hi)))
                    go_ret
                    exact ⟨by first | rfl | (simp [errW_none, errW_some] <;> rfl) | (simp [*, errW_none, errW_some] <;> rfl), by repeat (first | (with_reducible first | exact HB.out | apply below_alloc | apply pw_below_drewN | apply below_drew1) | exact HB.out)⟩
                  · rw [if_neg c22] at H
                    have c22b0 : ((decide (t313 > 0)) == (Op.bytesLess t310.toList t308.toList)) = false := by simpa using c22
                    (try (have c22b1 : decide ((decide (t313 > 0)) = (Op.bytesLess t310.toList t308.toList)) = false := by simpa using c22))
                    (try (have c22b2 : ((decide (t313 > 0)) == (Op.bytesLess t310.toList t308.toList)) = false := by simpa using c22))
                    (try (have c22b3 : ¬ ((decide (t313 > 0)) = (Op.bytesLess t310.toList t308.toList)) := by simpa using c22))
                    clear c22
                    obtain rfl := Option.some.inj H
                    go_wp2_with (first | ((with_reducible refine gate_callee (f := 19) rfl ?_); refine goesL_ (some 42) rfl rfl Tryd.func19 (by kernel_rfl) rfl #[.slice A0 l0.length c0, .slice A1 l1.length c1] rfl (by (try simp only [List.map_toArray, List.map_cons, List.map_nil]); first | done | rfl | (simp only [List.length_drop, List.length_take]; rfl)) ?_; (with_reducible refine (tuple_Compare.calls kj12 _ _ l0 _ _ l1 t313 _ ?side1 ?side2 ?side3 ?side4 A20.out).mono ?_); (case side1 => repeat (first | exact (Kd.C_below HR0.out HB.out) | (with_reducible refine Kd.C_alloc ?_ _) | (with_reducible refine Kd.C_drewN ?_ _) | (with_reducible refine Kd.C_drew ?_))); (case side2 => exact HC0.out); (case side3 => repeat (first | exact (Kd.C_below HR1.out HB.out) | (with_reducible refine Kd.C_alloc ?_ _) | (with_reducible refine Kd.C_drewN ?_ _) | (with_reducible refine Kd.C_drew ?_))); (case side4 => exact HC1.out); rintro e w26 ⟨rfl, hb⟩; refine ⟨_, rfl, ?_⟩; have n0_ := Aside0.mk (below_step (by repeat (first | (with_reducible first | exact HB.out | apply below_alloc | apply pw_below_drewN | apply below_drew1) | exact HB.out)) hb); clear HB; have HB := n0_; clear n0_; (try clear hb); (try clear hb2); (try clear hk); (try clear hi)))
                    go_ret
                    exact ⟨by first | rfl | (simp [errW_none, errW_some] <;> rfl) | (simp [*, errW_none, errW_some] <;> rfl), by repeat (first | (with_reducible first | exact HB.out | apply below_alloc | apply pw_below_drewN | apply below_drew1) | exact HB.out)⟩
                · rw [if_neg c21] at H
                  have c21b0 : ((decide (t313 < 0)) == (Op.bytesLess t308.toList t310.toList)) = false := by simpa using c21
                  (try (have c21b1 : decide ((decide (t313 < 0)) = (Op.bytesLess t308.toList t310.toList)) = false := by simpa using c21))
                  (try (have c21b2 : ((decide (t313 < 0)) == (Op.bytesLess t308.toList t310.toList)) = false := by simpa using c21))
                  (try (have c21b3 : ¬ ((decide (t313 < 0)) = (Op.bytesLess t308.toList t310.toList)) := by simpa using c21))
                  clear c21
                  obtain rfl := Option.some.inj H
                  go_wp2_with (first | ((with_reducible refine gate_callee (f := 19) rfl ?_); refine goesL_ (some 42) rfl rfl Tryd.func19 (by kernel_rfl) rfl #[.slice A0 l0.length c0, .slice A1 l1.length c1] rfl (by (try simp only [List.map_toArray, List.map_cons, List.map_nil]); first | done | rfl | (simp only [List.length_drop, List.length_take]; rfl)) ?_; (with_reducible refine (tuple_Compare.calls kj12 _ _ l0 _ _ l1 t313 _ ?side1 ?side2 ?side3 ?side4 A20.out).mono ?_); (case side1 => repeat (first | exact (Kd.C_below HR0.out HB.out) | (with_reducible refine Kd.C_alloc ?_ _) | (with_reducible refine Kd.C_drewN ?_ _) | (with_reducible refine Kd.C_drew ?_))); (case side2 => exact HC0.out); (case side3 => repeat (first | exact (Kd.C_below HR1.out HB.out) | (with_reducible refine Kd.C_alloc ?_ _) | (with_reducible refine Kd.C_drewN ?_ _) | (with_reducible refine Kd.C_drew ?_))); (case side4 => exact HC1.out); rintro e w27 ⟨rfl, hb⟩; refine ⟨_, rfl, ?_⟩; have n0_ := Aside0.mk (below_step (by repeat (first | (with_reducible first | exact HB.out | apply below_alloc | apply pw_below_drewN | apply below_drew1) | exact HB.out)) hb); clear HB; have HB := n0_; clear n0_; (try clear hb); (try clear hb2); (try clear hk); (try clear hi)))
                  go_ret
                  exact ⟨by first | rfl | (simp [errW_none, errW_some] <;> rfl) | (simp [*, errW_none, errW_some] <;> rfl), by repeat (first | (with_reducible first | exact HB.out | apply below_alloc | apply pw_below_drewN | apply below_drew1) | exact HB.out)⟩
  · replace c4 := Bool.eq_false_iff.mpr c4
    subst c4
    have H1 : (some false) = some r := by rw [if_neg (show ¬ (false = true) by decide)] at H; exact H
    clear H
    have H := H1
    clear H1
    obtain rfl := Option.some.inj H
    go_enter Tryd.func7, Tryd.ntmps7
    go_wp2_with (first | ((with_reducible refine gate_callee (f := 8) rfl ?_); refine goesL_ (some 10) rfl rfl Tryd.func8 (by kernel_rfl) rfl #[] rfl (by (try simp only [List.map_toArray, List.map_cons, List.map_nil]); first | done | rfl | (simp only [List.length_drop, List.length_take]; rfl)) ?_; (with_reducible refine (shelfmarklaw03_awake.calls k  false _ A3.out).mono ?_); rintro e w28 ⟨rfl, hb⟩; refine ⟨_, rfl, ?_⟩; have n0_ := Aside0.mk (below_step (by repeat (first | (with_reducible first | exact HB.out | apply below_alloc | apply pw_below_drewN | apply below_drew1) | exact HB.out)) hb); clear HB; have HB := n0_; clear n0_; (try clear hb); (try clear hb2); (try clear hk); (try clear hi)))
    go_ret
    exact ⟨by first | rfl | (simp [errW_none, errW_some] <;> rfl) | (simp [*, errW_none, errW_some] <;> rfl), by repeat (first | (with_reducible first | exact HB.out | apply below_alloc | apply pw_below_drewN | apply below_drew1) | exact HB.out)⟩

end Go.Proofs.YtdaidcfpikeooaaDoor.PAll
