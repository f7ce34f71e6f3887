-- Written by a program of this session for this claim (mp.py, over the kit's print); Lean checks it.
import Derived.Test.YtieifhjjjlmkbaaDoorPAllx0
import Derived.Test.YtieifhjjjlmkbaaDoorPAllx2
import Derived.Test.YtieifhjjjlmkbaaDoorPAllx10
import Derived.Test.YtieifhjjjlmkbaaDoorPAllx12
import Derived.Test.YtieifhjjjlmkbaaDoorPAllx17
import Derived.Test.YtieifhjjjlmkbaaDoorPAllx19
import Derived.Test.YtieifhjjjlmkbaaDoorPAllx21
import Derived.Test.YtieifhjjjlmkbaaDoorPAllx22
namespace Go.Proofs.YtieifhjjjlmkbaaDoor.PAll
open Go.RowKit Go.Proofs.YtieifhjjjlmkbaaDoorW.PrintWords Go.Proofs.YtieifhjjjlmkbaaDoorW.PrintLast Go.Proofs.YtieifhjjjlmkbaaDoorW.PrintMore Go.Proofs.YtieifhjjjlmkbaaDoor.Fv Go.Proofs.YtieifhjjjlmkbaaDoor.Hl
attribute [local go_sem] max2_int min2_int max_two min_two max_three min_three max_four min_four str_gtr str_leq str_geq   -- for this text's walks alone
set_option linter.unusedVariables false
set_option linter.unusedSimpArgs false

attribute [local go_sem high] eqA43
/-! ### shelfmarkref04_Lies: function 20 -/
def shelfmarkref04_Lies.j0 : Nat → List (S41) → List (S41) → List (S41) → Bool → Option (Bool)
  | 0, _, _, _, _ => none
  | k + 1, x0, x1, x2, x20 => if x20 = true then (some false) else (if (x0.length : Int) > (x2.length : Int) then (if 0 ≤ (x2.length : Int) then (if (x2.length : Int) ≤ (x0.length : Int) then ((shelfmarkref03_Compare.f k x0 x1).bind fun t412 => (if t412 ≥ 0 then ((shelfmarkref03_Compare.f k (x0.take ((x2.length : Int) : Int).toNat) x2).bind fun t413 => (some (decide (t413 ≤ 0)))) else (some false))) else (none)) else (none)) else ((shelfmarkref03_Compare.f k x0 x1).bind fun t414 => (if t414 ≥ 0 then ((shelfmarkref03_Compare.f k x0 x2).bind fun t415 => (some (decide (t415 ≤ 0)))) else (some false))))
def shelfmarkref04_Lies.f (k : Nat) (l0 : List (S41)) (l1 : List (S41)) (l2 : List (S41)) : Option (Bool) := (shelfmarkref03_Row.f k l0).bind fun t405 => (if t405 = 0 then ((shelfmarkref03_Row.f k l1).bind fun t406 => (if t406 = 0 then ((shelfmarkref03_Row.f k l2).bind fun t407 => (shelfmarkref04_Lies.j0 k l0 l1 l2 (t407 != 0))) else (shelfmarkref04_Lies.j0 k l0 l1 l2 true))) else (shelfmarkref04_Lies.j0 k l0 l1 l2 true))
theorem shelfmarkref04_Lies.mono_l : ∀ k, (∀ y0 y1 y2 y3, LeO (shelfmarkref04_Lies.j0 k y0 y1 y2 y3) (shelfmarkref04_Lies.j0 (k + 1) y0 y1 y2 y3))
  | 0 => fun _ _ _ _ r h => by simp [shelfmarkref04_Lies.j0] at h
  | k + 1 => by
    have ih0 := shelfmarkref04_Lies.mono_l k
    · intro y0 y1 y2 y3
      unfold shelfmarkref04_Lies.j0
      repeat' first
      | (with_reducible exact ih0 _ _ _ _)
      | (with_reducible exact shelfmarkref03_Compare.mono _ _ _)
      | (with_reducible exact shelfmarkref03_Row.mono _ _)
      | (with_reducible exact LeO.refl _)
      | (with_reducible exact LeO.none _)
      | (with_reducible refine LeO.ite ?_ ?_)
      | (with_reducible refine LeO.bind ?_ (fun _ => ?_))
      | exact ih0 _ _ _ _
      | exact shelfmarkref03_Compare.mono _ _ _
      | exact shelfmarkref03_Row.mono _ _
      | exact LeO.none _
      | refine LeO.ite ?_ ?_
      | refine LeO.bind ?_ (fun _ => ?_)
theorem shelfmarkref04_Lies.mono : ∀ a0 a1 a2 k, LeO (shelfmarkref04_Lies.f k a0 a1 a2) (shelfmarkref04_Lies.f (k + 1) a0 a1 a2) := by
  intro a0 a1 a2 k
  have ih0 := shelfmarkref04_Lies.mono_l k
  unfold shelfmarkref04_Lies.f
  repeat' first
      | (with_reducible exact ih0 _ _ _ _)
      | (with_reducible exact shelfmarkref03_Compare.mono _ _ _)
      | (with_reducible exact shelfmarkref03_Row.mono _ _)
      | (with_reducible exact LeO.refl _)
      | (with_reducible exact LeO.none _)
      | (with_reducible refine LeO.ite ?_ ?_)
      | (with_reducible refine LeO.bind ?_ (fun _ => ?_))
      | exact ih0 _ _ _ _
      | exact shelfmarkref03_Compare.mono _ _ _
      | exact shelfmarkref03_Row.mono _ _
      | exact LeO.none _
      | refine LeO.ite ?_ ?_
      | refine LeO.bind ?_ (fun _ => ?_)
set_option maxHeartbeats 3000000 in
set_option maxRecDepth 100000 in
theorem shelfmarkref04_Lies.calls (k : Nat) (A0 : Option Addr) (c0 : Nat) (l0 : List (S41)) (A1 : Option Addr) (c1 : Nat) (l1 : List (S41)) (A2 : Option Addr) (c2 : Nat) (l2 : List (S41)) (r : Bool) (w : World) (hr0 : Kd.C k41 w A0 l0.length l0) (hc0 : l0.length ≤ c0) (hr1 : Kd.C k41 w A1 l1.length l1) (hc1 : l1.length ≤ c1) (hr2 : Kd.C k41 w A2 l2.length l2) (hc2 : l2.length ≤ c2) (h : shelfmarkref04_Lies.f k l0 l1 l2 = some r) :
    Calls Tryd.prog 20 #[.slice A0 l0.length c0, .slice A1 l1.length c1, .slice A2 l2.length c2] w fun e w' => e = .returned (.bool r) ∧ Below w.heap.size w w' := by
  have HR0 := Aside0.mk hr0
  have HC0 := Aside0.mk hc0
  clear hr0 hc0
  have HR1 := Aside0.mk hr1
  have HC1 := Aside0.mk hc1
  clear hr1 hc1
  have HR2 := Aside0.mk hr2
  have HC2 := Aside0.mk hc2
  clear hr2 hc2
  have HB := Aside0.mk (Below.refl w.heap.size w)
  have H : ((shelfmarkref03_Row.f k l0).bind fun t405 => (if t405 = 0 then ((shelfmarkref03_Row.f k l1).bind fun t406 => (if t406 = 0 then ((shelfmarkref03_Row.f k l2).bind fun t407 => (shelfmarkref04_Lies.j0 k l0 l1 l2 (t407 != 0))) else (shelfmarkref04_Lies.j0 k l0 l1 l2 true))) else (shelfmarkref04_Lies.j0 k l0 l1 l2 true))) = some r := h
  clear h
  have HC4 := Aside0.mk H
  clear H
  go_enter Tryd.func20, Tryd.ntmps20
  go_upto_region 1 with (fail)
  go_cut [20] (fun v20 wc => ∃ (kq : Nat) (x20_3 : Bool), v20 = .bool x20_3 ∧ Aside0 (shelfmarkref04_Lies.j0 kq l0 l1 l2 x20_3 = some r) ∧ Aside0 (kq ≤ k) ∧ Aside0 (Below w.heap.size w wc))
  case first =>
    have H := HC4.out
    clear HC4
    replace H := Option.bind_eq_some_iff.mp H
    obtain ⟨t405, A50, H⟩ := H
    replace H : (if t405 = 0 then ((shelfmarkref03_Row.f k l1).bind fun t406 => (if t406 = 0 then ((shelfmarkref03_Row.f k l2).bind fun t407 => (shelfmarkref04_Lies.j0 k l0 l1 l2 (t407 != 0))) else (shelfmarkref04_Lies.j0 k l0 l1 l2 true))) else (shelfmarkref04_Lies.j0 k l0 l1 l2 true)) = some r := H
    have A5 := Aside0.mk A50
    clear A50
    by_cases c6 : t405 = 0
    · rw [if_pos c6] at H
      have c6b0 : (t405 == 0) = true := beq_iff_eq.mpr c6
      have c6b1 : (t405 != 0) = false := bne_eq_false_iff_eq.mpr c6
      clear c6
      (first | rw [c6b0] | (simp only [i64_w, i32_w]; rw [c6b0]) | skip)
      replace H := Option.bind_eq_some_iff.mp H
      obtain ⟨t406, A70, H⟩ := H
      replace H : (if t406 = 0 then ((shelfmarkref03_Row.f k l2).bind fun t407 => (shelfmarkref04_Lies.j0 k l0 l1 l2 (t407 != 0))) else (shelfmarkref04_Lies.j0 k l0 l1 l2 true)) = some r := H
      have A7 := Aside0.mk A70
      clear A70
      by_cases c8 : t406 = 0
      · rw [if_pos c8] at H
        have c8b0 : (t406 == 0) = true := beq_iff_eq.mpr c8
        have c8b1 : (t406 != 0) = false := bne_eq_false_iff_eq.mpr c8
        clear c8
        replace H := Option.bind_eq_some_iff.mp H
        obtain ⟨t407, A90, H⟩ := H
        replace H : (shelfmarkref04_Lies.j0 k l0 l1 l2 (t407 != 0)) = some r := H
        have A9 := Aside0.mk A90
        clear A90
        have H' := Aside0.mk H
        clear H
        go_wp2_with (first | ((with_reducible refine gate_callee (f := 34) rfl ?_); refine goesL_ (some 9) rfl rfl Tryd.func34 (by kernel_rfl) rfl #[.slice A0 l0.length c0] rfl (by (try simp only [List.map_toArray, List.map_cons, List.map_nil]); first | done | rfl | (simp only [List.length_drop, List.length_take]; rfl)) ?_; (with_reducible refine (shelfmarkref03_Row.calls k _ _ l0 t405 _ ?side1 ?side2 A5.out).mono ?_); (case side1 => repeat (first | exact (Kd.C_below HR0.out HB.out) | (with_reducible refine Kd.C_alloc ?_ _) | (with_reducible refine Kd.C_drewN ?_ _) | (with_reducible refine Kd.C_drew ?_))); (case side2 => exact HC0.out); rintro e w10 ⟨rfl, hb⟩; refine ⟨_, rfl, ?_⟩; have n0_ := Aside0.mk (below_step (by repeat (first | (with_reducible first | exact HB.out | apply below_alloc | apply pw_below_drewN | apply below_drew1) | exact HB.out)) hb); clear HB; have HB := n0_; clear n0_; (try clear hb); (try clear hb2); (try clear hk); (try clear hi)) | (go_at_call 34; (with_reducible refine (shelfmarkref03_Row.calls k _ _ l1 t406 _ ?side1 ?side2 A7.out).mono ?_); (case side1 => repeat (first | exact (Kd.C_below HR1.out HB.out) | (with_reducible refine Kd.C_alloc ?_ _) | (with_reducible refine Kd.C_drewN ?_ _) | (with_reducible refine Kd.C_drew ?_))); (case side2 => exact HC1.out); rintro e w11 ⟨rfl, hb⟩; have n0_ := Aside0.mk (below_step (by repeat (first | (with_reducible first | exact HB.out | apply below_alloc | apply pw_below_drewN | apply below_drew1) | exact HB.out)) hb); clear HB; have HB := n0_; clear n0_; (try clear hb); (try clear hb2); (try clear hk); (try clear hi)) | (go_at_call 34; (with_reducible refine (shelfmarkref03_Row.calls k _ _ l2 t407 _ ?side1 ?side2 A9.out).mono ?_); (case side1 => repeat (first | exact (Kd.C_below HR2.out HB.out) | (with_reducible refine Kd.C_alloc ?_ _) | (with_reducible refine Kd.C_drewN ?_ _) | (with_reducible refine Kd.C_drew ?_))); (case side2 => exact HC2.out); rintro e w12 ⟨rfl, hb⟩; have n0_ := Aside0.mk (below_step (by repeat (first | (with_reducible first | exact HB.out | apply below_alloc | apply pw_below_drewN | apply below_drew1) | exact HB.out)) hb); clear HB; have HB := n0_; clear n0_; (try clear hb); (try clear hb2); (try clear hk); (try clear hi)))
        go_meet
        case rel => exact ⟨_, ((t407 != 0)), (by first | rfl | (simp; done) | (simp [*]; done) | (simp [ne_nil_bytes]; done) | (simp [eq_nil_bytes]; done)), H', ⟨by first | omega | exact Nat.le_refl _⟩, ⟨by repeat (first | (with_reducible first | exact HB.out | apply below_alloc | apply pw_below_drewN | apply below_drew1) | exact HB.out)⟩⟩
      · rw [if_neg c8] at H
        have c8b0 : (t406 == 0) = false := beq_eq_false_iff_ne.mpr c8
        have c8b1 : (t406 != 0) = true := bne_iff_ne.mpr c8
        have H' := Aside0.mk H
        clear H
        go_wp2_with (first | ((with_reducible refine gate_callee (f := 34) rfl ?_); refine goesL_ (some 9) rfl rfl Tryd.func34 (by kernel_rfl) rfl #[.slice A0 l0.length c0] rfl (by (try simp only [List.map_toArray, List.map_cons, List.map_nil]); first | done | rfl | (simp only [List.length_drop, List.length_take]; rfl)) ?_; (with_reducible refine (shelfmarkref03_Row.calls k _ _ l0 t405 _ ?side1 ?side2 A5.out).mono ?_); (case side1 => repeat (first | exact (Kd.C_below HR0.out HB.out) | (with_reducible refine Kd.C_alloc ?_ _) | (with_reducible refine Kd.C_drewN ?_ _) | (with_reducible refine Kd.C_drew ?_))); (case side2 => exact HC0.out); rintro e w13 ⟨rfl, hb⟩; refine ⟨_, rfl, ?_⟩; have n0_ := Aside0.mk (below_step (by repeat (first | (with_reducible first | exact HB.out | apply below_alloc | apply pw_below_drewN | apply below_drew1) | exact HB.out)) hb); clear HB; have HB := n0_; clear n0_; (try clear hb); (try clear hb2); (try clear hk); (try clear hi)) | (go_at_call 34; (with_reducible refine (shelfmarkref03_Row.calls k _ _ l1 t406 _ ?side1 ?side2 A7.out).mono ?_); (case side1 => repeat (first | exact (Kd.C_below HR1.out HB.out) | (with_reducible refine Kd.C_alloc ?_ _) | (with_reducible refine Kd.C_drewN ?_ _) | (with_reducible refine Kd.C_drew ?_))); (case side2 => exact HC1.out); rintro e w14 ⟨rfl, hb⟩; have n0_ := Aside0.mk (below_step (by repeat (first | (with_reducible first | exact HB.out | apply below_alloc | apply pw_below_drewN | apply below_drew1) | exact HB.out)) hb); clear HB; have HB := n0_; clear n0_; (try clear hb); (try clear hb2); (try clear hk); (try clear hi)))
        go_meet
        case rel => exact ⟨_, (true), (by first | rfl | (simp; done) | (simp [*]; done) | (simp [ne_nil_bytes]; done) | (simp [eq_nil_bytes]; done)), H', ⟨by first | omega | exact Nat.le_refl _⟩, ⟨by repeat (first | (with_reducible first | exact HB.out | apply below_alloc | apply pw_below_drewN | apply below_drew1) | exact HB.out)⟩⟩
    · rw [if_neg c6] at H
      have c6b0 : (t405 == 0) = false := beq_eq_false_iff_ne.mpr c6
      have c6b1 : (t405 != 0) = true := bne_iff_ne.mpr c6
      (first | rw [c6b0] | (simp only [i64_w, i32_w]; rw [c6b0]) | skip)
      have H' := Aside0.mk H
      clear H
      go_wp2_with (first | ((with_reducible refine gate_callee (f := 34) rfl ?_); refine goesL_ (some 9) rfl rfl Tryd.func34 (by kernel_rfl) rfl #[.slice A0 l0.length c0] rfl (by (try simp only [List.map_toArray, List.map_cons, List.map_nil]); first | done | rfl | (simp only [List.length_drop, List.length_take]; rfl)) ?_; (with_reducible refine (shelfmarkref03_Row.calls k _ _ l0 t405 _ ?side1 ?side2 A5.out).mono ?_); (case side1 => repeat (first | exact (Kd.C_below HR0.out HB.out) | (with_reducible refine Kd.C_alloc ?_ _) | (with_reducible refine Kd.C_drewN ?_ _) | (with_reducible refine Kd.C_drew ?_))); (case side2 => exact HC0.out); rintro e w15 ⟨rfl, hb⟩; refine ⟨_, rfl, ?_⟩; have n0_ := Aside0.mk (below_step (by repeat (first | (with_reducible first | exact HB.out | apply below_alloc | apply pw_below_drewN | apply below_drew1) | exact HB.out)) hb); clear HB; have HB := n0_; clear n0_; (try clear hb); (try clear hb2); (try clear hk); (try clear hi)))
      go_meet
      case rel => exact ⟨_, (true), (by first | rfl | (simp; done) | (simp [*]; done) | (simp [ne_nil_bytes]; done) | (simp [eq_nil_bytes]; done)), H', ⟨by first | omega | exact Nat.le_refl _⟩, ⟨by repeat (first | (with_reducible first | exact HB.out | apply below_alloc | apply pw_below_drewN | apply below_drew1) | exact HB.out)⟩⟩
  case rest =>
    clear HC4
    try clear c1
    try clear c2
    try clear p2
    try clear c3
    try clear c6
    try clear c6b0
    try clear c6b0z
    try clear c6b1
    try clear c6b1z
    try clear c8
    try clear c8b0
    try clear c8b0z
    try clear c8b1
    try clear c8b1z
    obtain ⟨kq, x20_3, rfl, HA, HJ3, HB⟩ := hcut
    cases kq with
    | zero => exact absurd HA.out (by simp [shelfmarkref04_Lies.j0])
    | succ kj3 =>
      have H := HA.out
      clear HA
      simp only [shelfmarkref04_Lies.j0] at H
      by_cases c16 : x20_3 = true
      · subst c16
        have H1 : (some false) = some r := by rw [if_pos rfl] at H; exact H
        clear H
        have H := H1
        clear H1
        obtain rfl := Option.some.inj H
        go_wp2
        go_ret
        exact ⟨by first | rfl | (simp [errW_none, errW_some] <;> rfl) | (simp [*, errW_none, errW_some] <;> rfl), by repeat (first | (with_reducible first | exact HB.out | apply below_alloc | apply pw_below_drewN | apply below_drew1) | exact HB.out)⟩
      · replace c16 := Bool.eq_false_iff.mpr c16
        subst c16
        have H1 : (if (l0.length : Int) > (l2.length : Int) then (if 0 ≤ (l2.length : Int) then (if (l2.length : Int) ≤ (l0.length : Int) then ((shelfmarkref03_Compare.f kj3 l0 l1).bind fun t412 => (if t412 ≥ 0 then ((shelfmarkref03_Compare.f kj3 (l0.take ((l2.length : Int) : Int).toNat) l2).bind fun t413 => (some (decide (t413 ≤ 0)))) else (some false))) else (none)) else (none)) else ((shelfmarkref03_Compare.f kj3 l0 l1).bind fun t414 => (if t414 ≥ 0 then ((shelfmarkref03_Compare.f kj3 l0 l2).bind fun t415 => (some (decide (t415 ≤ 0)))) else (some false)))) = some r := by rw [if_neg (show ¬ (false = true) by decide)] at H; exact H
        clear H
        have H := H1
        clear H1
        by_cases c17 : (l0.length : Int) > (l2.length : Int)
        · rw [if_pos c17] at H
          have c17b0 : decide ((l2.length : Int) < (l0.length : Int)) = true := decide_eq_true c17
          have c17b1 : decide (l2.length < l0.length) = true := decide_eq_true (Int.ofNat_lt.mp c17)
          clear c17
          by_cases c18 : 0 ≤ (l2.length : Int)
          · rw [if_pos c18] at H
            have c18b0 := eq_true c18
            have c18b1 : decide (0 ≤ (l2.length : Int)) = true := decide_eq_true c18
            clear c18
            by_cases c19 : (l2.length : Int) ≤ (l0.length : Int)
            · rw [if_pos c19] at H
              have c19b0 := eq_true c19
              have c19b1 : decide ((l2.length : Int) ≤ (l0.length : Int)) = true := decide_eq_true c19
              clear c19
              obtain ⟨y408, hy408⟩ : ∃ y_ : List (S41), y_ = (l0.take ((l2.length : Int) : Int).toNat) := ⟨_, rfl⟩
              replace H : ((shelfmarkref03_Compare.f kj3 l0 l1).bind fun t412 => (if t412 ≥ 0 then ((shelfmarkref03_Compare.f kj3 y408 l2).bind fun t413 => (some (decide (t413 ≤ 0)))) else (some false))) = some r := by first | (rw [hy408]; with_reducible exact H) | (have H2_ := (Option.bind_some _ _).symm.trans H; rw [hy408]; with_reducible exact H2_) | (have H2_ := (Option.bind_some _ _).symm.trans H; with_reducible exact H2_) | with_reducible exact H | (rw [hy408]; exact H) | exact H
              have Ny408 := Aside0.mk hy408
              clear hy408
              replace H := Option.bind_eq_some_iff.mp H
              obtain ⟨t412, A200, H⟩ := H
              replace H : (if t412 ≥ 0 then ((shelfmarkref03_Compare.f kj3 y408 l2).bind fun t413 => (some (decide (t413 ≤ 0)))) else (some false)) = some r := H
              have A20 := Aside0.mk A200
              clear A200
              by_cases c21 : t412 ≥ 0
              · rw [if_pos c21] at H
                have c21b0 : decide (0 ≤ t412) = true := decide_eq_true c21
                clear c21
                replace H := Option.bind_eq_some_iff.mp H
                obtain ⟨t413, A220, H⟩ := H
                replace H : (some (decide (t413 ≤ 0))) = some r := H
                have A22 := Aside0.mk A220
                clear A220
                obtain rfl := Option.some.inj H
                have q23 : ((l2.length : Int) : Int) ≤ ((l0.length : Int) : Int) := of_decide_eq_true (by first | (with_reducible assumption) | assumption)
                obtain ⟨i023, hi023, _, hsz23, _⟩ := info_parts info41
                have hroom23 : l0.length ≤ c0 := HC0.out
                have hC23 : Kd.C k41 _ A0 l0.length l0 := HR0.out
                have hcut23 := cut_to (P := Tryd.prog) 25 41 .i64 Tryd.underlying25 hi023 A0 l0.length c0 (l2.length : Int) (of_decide_eq_true (by first | (with_reducible assumption) | assumption)) q23 hroom23
                have hr23 := Kd.C_take (m := ((l2.length : Int) : Int).toNat) hC23 (by omega)
                have hy23 : y408.length = ((l2.length : Int) : Int).toNat := (by rw [Ny408.out, List.length_take]; omega)
                rw [← Ny408.out] at hr23
                rw [← hy23] at hcut23
                have HR411 := Aside0.mk hr23
                have HC411 := Aside0.mk (show y408.length ≤ c0 from by omega)
                clear hr23 hC23 hroom23 hi023 hsz23
                have KY23 := Aside0.mk hy23
                clear hy23
                replace q23 := eq_true q23
                go_wp2_with (first | ((with_reducible refine gate_callee (f := 16) rfl ?_); refine goesL_ (some 33) rfl rfl Tryd.func16 (by kernel_rfl) rfl #[.slice A0 l0.length c0, .slice A1 l1.length c1] rfl (by (try simp only [List.map_toArray, List.map_cons, List.map_nil]); first | done | rfl | (simp only [List.length_drop, List.length_take]; rfl)) ?_; (with_reducible refine (shelfmarkref03_Compare.calls kj3 _ _ l0 _ _ l1 t412 _ ?side1 ?side2 ?side3 ?side4 A20.out).mono ?_); (case side1 => repeat (first | exact (Kd.C_below HR0.out HB.out) | (with_reducible refine Kd.C_alloc ?_ _) | (with_reducible refine Kd.C_drewN ?_ _) | (with_reducible refine Kd.C_drew ?_))); (case side2 => exact HC0.out); (case side3 => repeat (first | exact (Kd.C_below HR1.out HB.out) | (with_reducible refine Kd.C_alloc ?_ _) | (with_reducible refine Kd.C_drewN ?_ _) | (with_reducible refine Kd.C_drew ?_))); (case side4 => exact HC1.out); rintro e w24 ⟨rfl, hb⟩; refine ⟨_, rfl, ?_⟩; have n0_ := Aside0.mk (below_step (by repeat (first | (with_reducible first | exact HB.out | apply below_alloc | apply pw_below_drewN | apply below_drew1) | exact HB.out)) hb); clear HB; have HB := n0_; clear n0_; (try clear hb); (try clear hb2); (try clear hk); (try clear hi)) | (go_at_call 16; (with_reducible refine (shelfmarkref03_Compare.calls kj3 _ _ y408 _ _ l2 t413 _ ?side1 ?side2 ?side3 ?side4 A22.out).mono ?_); (case side1 => repeat (first | exact (Kd.C_below HR411.out HB.out) | (with_reducible refine Kd.C_alloc ?_ _) | (with_reducible refine Kd.C_drewN ?_ _) | (with_reducible refine Kd.C_drew ?_))); (case side2 => exact HC411.out); (case side3 => repeat (first | exact (Kd.C_below HR2.out HB.out) | (with_reducible refine Kd.C_alloc ?_ _) | (with_reducible refine Kd.C_drewN ?_ _) | (with_reducible refine Kd.C_drew ?_))); (case side4 => exact HC2.out); rintro e w25 ⟨rfl, hb⟩; have n0_ := Aside0.mk (below_step (by repeat (first | (with_reducible first | exact HB.out | apply below_alloc | apply pw_below_drewN | apply below_drew1) | exact HB.out)) hb); clear HB; have HB := n0_; clear n0_; (try clear hb); (try clear hb2); (try clear hk); (try clear hi)))
                go_ret
                exact ⟨by first | rfl | (simp [errW_none, errW_some] <;> rfl) | (simp [*, errW_none, errW_some] <;> rfl), by repeat (first | (with_reducible first | exact HB.out | apply below_alloc | apply pw_below_drewN | apply below_drew1) | exact HB.out)⟩
              · rw [if_neg c21] at H
                have c21b0 : decide (0 ≤ t412) = false := decide_eq_false c21
                clear c21
                obtain rfl := Option.some.inj H
                have q26 : ((l2.length : Int) : Int) ≤ ((l0.length : Int) : Int) := of_decide_eq_true (by first | (with_reducible assumption) | assumption)
                obtain ⟨i026, hi026, _, hsz26, _⟩ := info_parts info41
                have hroom26 : l0.length ≤ c0 := HC0.out
                have hC26 : Kd.C k41 _ A0 l0.length l0 := HR0.out
                try clear hcut23
                have hcut26 := cut_to (P := Tryd.prog) 25 41 .i64 Tryd.underlying25 hi026 A0 l0.length c0 (l2.length : Int) (of_decide_eq_true (by first | (with_reducible assumption) | assumption)) q26 hroom26
                have hr26 := Kd.C_take (m := ((l2.length : Int) : Int).toNat) hC26 (by omega)
                have hy26 : y408.length = ((l2.length : Int) : Int).toNat := (by rw [Ny408.out, List.length_take]; omega)
                rw [← Ny408.out] at hr26
                rw [← hy26] at hcut26
                have HR411 := Aside0.mk hr26
                have HC411 := Aside0.mk (show y408.length ≤ c0 from by omega)
                clear hr26 hC26 hroom26 hi026 hsz26
                have KY26 := Aside0.mk hy26
                clear hy26
                replace q26 := eq_true q26
                go_wp2_with (first | ((with_reducible refine gate_callee (f := 16) rfl ?_); refine goesL_ (some 33) rfl rfl Tryd.func16 (by kernel_rfl) rfl #[.slice A0 l0.length c0, .slice A1 l1.length c1] rfl (by (try simp only [List.map_toArray, List.map_cons, List.map_nil]); first | done | rfl | (simp only [List.length_drop, List.length_take]; rfl)) ?_; (with_reducible refine (shelfmarkref03_Compare.calls kj3 _ _ l0 _ _ l1 t412 _ ?side1 ?side2 ?side3 ?side4 A20.out).mono ?_); (case side1 => repeat (first | exact (Kd.C_below HR0.out HB.out) | (with_reducible refine Kd.C_alloc ?_ _) | (with_reducible refine Kd.C_drewN ?_ _) | (with_reducible refine Kd.C_drew ?_))); (case side2 => exact HC0.out); (case side3 => repeat (first | exact (Kd.C_below HR1.out HB.out) | (with_reducible refine Kd.C_alloc ?_ _) | (with_reducible refine Kd.C_drewN ?_ _) | (with_reducible refine Kd.C_drew ?_))); (case side4 => exact HC1.out); rintro e w27 ⟨rfl, hb⟩; refine ⟨_, rfl, ?_⟩; have n0_ := Aside0.mk (below_step (by repeat (first | (with_reducible first | exact HB.out | apply below_alloc | apply pw_below_drewN | apply below_drew1) | exact HB.out)) hb); clear HB; have HB := n0_; clear n0_; (try clear hb); (try clear hb2); (try clear hk); (try clear hi)))
                go_ret
                exact ⟨by first | rfl | (simp [errW_none, errW_some] <;> rfl) | (simp [*, errW_none, errW_some] <;> rfl), by repeat (first | (with_reducible first | exact HB.out | apply below_alloc | apply pw_below_drewN | apply below_drew1) | exact HB.out)⟩
            · rw [if_neg c19] at H
              exact absurd H (by simp)
          · rw [if_neg c18] at H
            exact absurd H (by simp)
        · rw [if_neg c17] at H
          have c17b0 : decide ((l2.length : Int) < (l0.length : Int)) = false := decide_eq_false c17
          have c17b1 : decide (l2.length < l0.length) = false := decide_eq_false (fun h => c17 (Int.ofNat_lt.mpr h))
          clear c17
          replace H := Option.bind_eq_some_iff.mp H
          obtain ⟨t414, A280, H⟩ := H
          replace H : (if t414 ≥ 0 then ((shelfmarkref03_Compare.f kj3 l0 l2).bind fun t415 => (some (decide (t415 ≤ 0)))) else (some false)) = some r := H
          have A28 := Aside0.mk A280
          clear A280
          by_cases c29 : t414 ≥ 0
          · rw [if_pos c29] at H
            have c29b0 : decide (0 ≤ t414) = true := decide_eq_true c29
            clear c29
            replace H := Option.bind_eq_some_iff.mp H
            obtain ⟨t415, A300, H⟩ := H
            replace H : (some (decide (t415 ≤ 0))) = some r := H
            have A30 := Aside0.mk A300
            clear A300
            obtain rfl := Option.some.inj H
            go_wp2_with (first | ((with_reducible refine gate_callee (f := 16) rfl ?_); refine goesL_ (some 33) rfl rfl Tryd.func16 (by kernel_rfl) rfl #[.slice A0 l0.length c0, .slice A1 l1.length c1] rfl (by (try simp only [List.map_toArray, List.map_cons, List.map_nil]); first | done | rfl | (simp only [List.length_drop, List.length_take]; rfl)) ?_; (with_reducible refine (shelfmarkref03_Compare.calls kj3 _ _ l0 _ _ l1 t414 _ ?side1 ?side2 ?side3 ?side4 A28.out).mono ?_); (case side1 => repeat (first | exact (Kd.C_below HR0.out HB.out) | (with_reducible refine Kd.C_alloc ?_ _) | (with_reducible refine Kd.C_drewN ?_ _) | (with_reducible refine Kd.C_drew ?_))); (case side2 => exact HC0.out); (case side3 => repeat (first | exact (Kd.C_below HR1.out HB.out) | (with_reducible refine Kd.C_alloc ?_ _) | (with_reducible refine Kd.C_drewN ?_ _) | (with_reducible refine Kd.C_drew ?_))); (case side4 => exact HC1.out); rintro e w31 ⟨rfl, hb⟩; refine ⟨_, rfl, ?_⟩; have n0_ := Aside0.mk (below_step (by repeat (first | (with_reducible first | exact HB.out | apply below_alloc | apply pw_below_drewN | apply below_drew1) | exact HB.out)) hb); clear HB; have HB := n0_; clear n0_; (try clear hb); (try clear hb2); (try clear hk); (try clear hi)) | (go_at_call 16; (with_reducible refine (shelfmarkref03_Compare.calls kj3 _ _ l0 _ _ l2 t415 _ ?side1 ?side2 ?side3 ?side4 A30.out).mono ?_); (case side1 => repeat (first | exact (Kd.C_below HR0.out HB.out) | (with_reducible refine Kd.C_alloc ?_ _) | (with_reducible refine Kd.C_drewN ?_ _) | (with_reducible refine Kd.C_drew ?_))); (case side2 => exact HC0.out); (case side3 => repeat (first | exact (Kd.C_below HR2.out HB.out) | (with_reducible refine Kd.C_alloc ?_ _) | (with_reducible refine Kd.C_drewN ?_ _) | (with_reducible refine Kd.C_drew ?_))); (case side4 => exact HC2.out); rintro e w32 ⟨rfl, hb⟩; have n0_ := Aside0.mk (below_step (by repeat (first | (with_reducible first | exact HB.out | apply below_alloc | apply pw_below_drewN | apply below_drew1) | exact HB.out)) hb); clear HB; have HB := n0_; clear n0_; (try clear hb); (try clear hb2); (try clear hk); (try clear hi)))
            go_ret
            exact ⟨by first | rfl | (simp [errW_none, errW_some] <;> rfl) | (simp [*, errW_none, errW_some] <;> rfl), by repeat (first | (with_reducible first | exact HB.out | apply below_alloc | apply pw_below_drewN | apply below_drew1) | exact HB.out)⟩
          · rw [if_neg c29] at H
            have c29b0 : decide (0 ≤ t414) = false := decide_eq_false c29
            clear c29
            obtain rfl := Option.some.inj H
            go_wp2_with (first | ((with_reducible refine gate_callee (f := 16) rfl ?_); refine goesL_ (some 33) rfl rfl Tryd.func16 (by kernel_rfl) rfl #[.slice A0 l0.length c0, .slice A1 l1.length c1] rfl (by (try simp only [List.map_toArray, List.map_cons, List.map_nil]); first | done | rfl | (simp only [List.length_drop, List.length_take]; rfl)) ?_; (with_reducible refine (shelfmarkref03_Compare.calls kj3 _ _ l0 _ _ l1 t414 _ ?side1 ?side2 ?side3 ?side4 A28.out).mono ?_); (case side1 => repeat (first | exact (Kd.C_below HR0.out HB.out) | (with_reducible refine Kd.C_alloc ?_ _) | (with_reducible refine Kd.C_drewN ?_ _) | (with_reducible refine Kd.C_drew ?_))); (case side2 => exact HC0.out); (case side3 => repeat (first | exact (Kd.C_below HR1.out HB.out) | (with_reducible refine Kd.C_alloc ?_ _) | (with_reducible refine Kd.C_drewN ?_ _) | (with_reducible refine Kd.C_drew ?_))); (case side4 => exact HC1.out); rintro e w33 ⟨rfl, hb⟩; refine ⟨_, rfl, ?_⟩; have n0_ := Aside0.mk (below_step (by repeat (first | (with_reducible first | exact HB.out | apply below_alloc | apply pw_below_drewN | apply below_drew1) | exact HB.out)) hb); clear HB; have HB := n0_; clear n0_; (try clear hb); (try clear hb2); (try clear hk); (try clear hi)))
            go_ret
            exact ⟨by first | rfl | (simp [errW_none, errW_some] <;> rfl) | (simp [*, errW_none, errW_some] <;> rfl), by repeat (first | (with_reducible first | exact HB.out | apply below_alloc | apply pw_below_drewN | apply below_drew1) | exact HB.out)⟩

/-! ### shelfmarklaw04_RecordAreas: function 6 -/
def shelfmarklaw04_RecordAreas.j0 : Nat → Int → List (S41) → List (S41) → List (S41) → Bool → Option (Bool)
  | 0, _, _, _, _, _ => none
  | k + 1, x0, x1, x2, x3, x23 => if x23 = true then (some true) else ((record_Area.f k x0 x2 x3).bind fun bt419 => ((shelfmarkref04_Area.f k x0 x2 x3).bind fun bt423 => (if (bt419.1.toList == bt423.1.toList && (bt419.2.1.toList == bt423.2.1.toList)) = true then (if bt419.2.2 = bt423.2.2 then ((record_Lies.f k x1 x2 x3).bind fun t427 => ((shelfmarkref04_Lies.f k x1 x2 x3).bind fun t428 => (some (t427 == t428)))) else (some false)) else (some false))))
def shelfmarklaw04_RecordAreas.f (k : Nat) (a0 : Int) (l1 : List (S41)) (l2 : List (S41)) (l3 : List (S41)) : Option (Bool) := (shelfmarklaw04_awake.f k).bind fun t416 => (if t416 = true then ((shelfmarklaw04_light.f k l1 l2).bind fun t417 => (if t417 = true then ((shelfmarklaw04_light.f k l3 ([] : List (S41))).bind fun t418 => (shelfmarklaw04_RecordAreas.j0 k a0 l1 l2 l3 (!t418))) else (shelfmarklaw04_RecordAreas.j0 k a0 l1 l2 l3 true))) else (some false))
theorem shelfmarklaw04_RecordAreas.mono_l : ∀ k, (∀ y0 y1 y2 y3 y4, LeO (shelfmarklaw04_RecordAreas.j0 k y0 y1 y2 y3 y4) (shelfmarklaw04_RecordAreas.j0 (k + 1) y0 y1 y2 y3 y4))
  | 0 => fun _ _ _ _ _ r h => by simp [shelfmarklaw04_RecordAreas.j0] at h
  | k + 1 => by
    have ih0 := shelfmarklaw04_RecordAreas.mono_l k
    · intro y0 y1 y2 y3 y4
      unfold shelfmarklaw04_RecordAreas.j0
      repeat' first
      | (with_reducible exact ih0 _ _ _ _ _)
      | (with_reducible exact record_Area.mono _ _ _ _)
      | (with_reducible exact record_Lies.mono _ _ _ _)
      | (with_reducible exact shelfmarklaw04_awake.mono _)
      | (with_reducible exact shelfmarklaw04_light.mono _ _ _)
      | (with_reducible exact shelfmarkref04_Area.mono _ _ _ _)
      | (with_reducible exact shelfmarkref04_Lies.mono _ _ _ _)
      | (with_reducible exact LeO.refl _)
      | (with_reducible exact LeO.none _)
      | (with_reducible refine LeO.ite ?_ ?_)
      | (with_reducible refine LeO.bind ?_ (fun _ => ?_))
      | exact ih0 _ _ _ _ _
      | exact record_Area.mono _ _ _ _
      | exact record_Lies.mono _ _ _ _
      | exact shelfmarklaw04_awake.mono _
      | exact shelfmarklaw04_light.mono _ _ _
      | exact shelfmarkref04_Area.mono _ _ _ _
      | exact shelfmarkref04_Lies.mono _ _ _ _
      | exact LeO.none _
      | refine LeO.ite ?_ ?_
      | refine LeO.bind ?_ (fun _ => ?_)
theorem shelfmarklaw04_RecordAreas.mono : ∀ a0 a1 a2 a3 k, LeO (shelfmarklaw04_RecordAreas.f k a0 a1 a2 a3) (shelfmarklaw04_RecordAreas.f (k + 1) a0 a1 a2 a3) := by
  intro a0 a1 a2 a3 k
  have ih0 := shelfmarklaw04_RecordAreas.mono_l k
  unfold shelfmarklaw04_RecordAreas.f
  repeat' first
      | (with_reducible exact ih0 _ _ _ _ _)
      | (with_reducible exact record_Area.mono _ _ _ _)
      | (with_reducible exact record_Lies.mono _ _ _ _)
      | (with_reducible exact shelfmarklaw04_awake.mono _)
      | (with_reducible exact shelfmarklaw04_light.mono _ _ _)
      | (with_reducible exact shelfmarkref04_Area.mono _ _ _ _)
      | (with_reducible exact shelfmarkref04_Lies.mono _ _ _ _)
      | (with_reducible exact LeO.refl _)
      | (with_reducible exact LeO.none _)
      | (with_reducible refine LeO.ite ?_ ?_)
      | (with_reducible refine LeO.bind ?_ (fun _ => ?_))
      | exact ih0 _ _ _ _ _
      | exact record_Area.mono _ _ _ _
      | exact record_Lies.mono _ _ _ _
      | exact shelfmarklaw04_awake.mono _
      | exact shelfmarklaw04_light.mono _ _ _
      | exact shelfmarkref04_Area.mono _ _ _ _
      | exact shelfmarkref04_Lies.mono _ _ _ _
      | exact LeO.none _
      | refine LeO.ite ?_ ?_
      | refine LeO.bind ?_ (fun _ => ?_)
set_option maxHeartbeats 3000000 in
set_option maxRecDepth 100000 in
theorem shelfmarklaw04_RecordAreas.calls (k : Nat) (a0 : Int) (A1 : Option Addr) (c1 : Nat) (l1 : List (S41)) (A2 : Option Addr) (c2 : Nat) (l2 : List (S41)) (A3 : Option Addr) (c3 : Nat) (l3 : List (S41)) (r : Bool) (w : World) (hr1 : Kd.C k41 w A1 l1.length l1) (hc1 : l1.length ≤ c1) (hr2 : Kd.C k41 w A2 l2.length l2) (hc2 : l2.length ≤ c2) (hr3 : Kd.C k41 w A3 l3.length l3) (hc3 : l3.length ≤ c3) (h : shelfmarklaw04_RecordAreas.f k a0 l1 l2 l3 = some r) :
    Calls Tryd.prog 6 #[.int .i64 a0, .slice A1 l1.length c1, .slice A2 l2.length c2, .slice A3 l3.length c3] w fun e w' => e = .returned (.bool r) ∧ Below w.heap.size w w' := by
  have hu43 := Tryd.underlying43
  have HR1 := Aside0.mk hr1
  have HC1 := Aside0.mk hc1
  clear hr1 hc1
  have HR2 := Aside0.mk hr2
  have HC2 := Aside0.mk hc2
  clear hr2 hc2
  have HR3 := Aside0.mk hr3
  have HC3 := Aside0.mk hc3
  clear hr3 hc3
  have HB := Aside0.mk (Below.refl w.heap.size w)
  have H : ((shelfmarklaw04_awake.f k).bind fun t416 => (if t416 = true then ((shelfmarklaw04_light.f k l1 l2).bind fun t417 => (if t417 = true then ((shelfmarklaw04_light.f k l3 ([] : List (S41))).bind fun t418 => (shelfmarklaw04_RecordAreas.j0 k a0 l1 l2 l3 (!t418))) else (shelfmarklaw04_RecordAreas.j0 k a0 l1 l2 l3 true))) else (some false))) = some r := h
  clear h
  replace H := Option.bind_eq_some_iff.mp H
  obtain ⟨t416, A50, H⟩ := H
  replace H : (if t416 = true then ((shelfmarklaw04_light.f k l1 l2).bind fun t417 => (if t417 = true then ((shelfmarklaw04_light.f k l3 ([] : List (S41))).bind fun t418 => (shelfmarklaw04_RecordAreas.j0 k a0 l1 l2 l3 (!t418))) else (shelfmarklaw04_RecordAreas.j0 k a0 l1 l2 l3 true))) else (some false)) = some r := H
  have A5 := Aside0.mk A50
  clear A50
  by_cases c6 : t416 = true
  · subst c6
    have H1 : ((shelfmarklaw04_light.f k l1 l2).bind fun t417 => (if t417 = true then ((shelfmarklaw04_light.f k l3 ([] : List (S41))).bind fun t418 => (shelfmarklaw04_RecordAreas.j0 k a0 l1 l2 l3 (!t418))) else (shelfmarklaw04_RecordAreas.j0 k a0 l1 l2 l3 true))) = some r := by rw [if_pos rfl] at H; exact H
    clear H
    have H := H1
    clear H1
    have HC7 := Aside0.mk H
    clear H
    go_enter Tryd.func6, Tryd.ntmps6
    go_upto_region 3 with (first | ((with_reducible refine gate_callee (f := 8) rfl ?_); refine goesL_ (some 13) rfl rfl Tryd.func8 (by kernel_rfl) rfl #[] rfl (by (try simp only [List.map_toArray, List.map_cons, List.map_nil]); first | done | rfl | (simp only [List.length_drop, List.length_take]; rfl)) ?_; (with_reducible refine (shelfmarklaw04_awake.calls k  true _ A5.out).mono ?_); rintro e w8 ⟨rfl, hb⟩; refine ⟨_, rfl, ?_⟩; have n0_ := Aside0.mk (below_step (by repeat (first | (with_reducible first | exact HB.out | apply below_alloc | apply pw_below_drewN | apply below_drew1) | exact HB.out)) hb); clear HB; have HB := n0_; clear n0_; (try clear hb); (try clear hb2); (try clear hk); (try clear hi)))
    (try simp only [Act.put, List.setIfInBounds_toArray, List.set_cons_zero, List.set_cons_succ])
    go_cut [23] (fun v23 wc => ∃ (kq : Nat) (x23_6 : Bool), v23 = .bool x23_6 ∧ Aside0 (shelfmarklaw04_RecordAreas.j0 kq a0 l1 l2 l3 x23_6 = some r) ∧ Aside0 (kq ≤ k) ∧ Aside0 (Below w.heap.size w wc))
    case first =>
      have H := HC7.out
      clear HC7
      replace H := Option.bind_eq_some_iff.mp H
      obtain ⟨t417, A90, H⟩ := H
      replace H : (if t417 = true then ((shelfmarklaw04_light.f k l3 ([] : List (S41))).bind fun t418 => (shelfmarklaw04_RecordAreas.j0 k a0 l1 l2 l3 (!t418))) else (shelfmarklaw04_RecordAreas.j0 k a0 l1 l2 l3 true)) = some r := H
      have A9 := Aside0.mk A90
      clear A90
      by_cases c10 : t417 = true
      · subst c10
        have H1 : ((shelfmarklaw04_light.f k l3 ([] : List (S41))).bind fun t418 => (shelfmarklaw04_RecordAreas.j0 k a0 l1 l2 l3 (!t418))) = some r := by rw [if_pos rfl] at H; exact H
        clear H
        have H := H1
        clear H1
        replace H := Option.bind_eq_some_iff.mp H
        obtain ⟨t418, A110, H⟩ := H
        replace H : (shelfmarklaw04_RecordAreas.j0 k a0 l1 l2 l3 (!t418)) = some r := H
        have A11 := Aside0.mk A110
        clear A110
        have H' := Aside0.mk H
        clear H
        go_wp2_with (first | ((with_reducible refine gate_callee (f := 9) rfl ?_); refine goesL_ (some 17) rfl rfl Tryd.func9 (by kernel_rfl) rfl #[.slice A1 l1.length c1, .slice A2 l2.length c2] rfl (by (try simp only [List.map_toArray, List.map_cons, List.map_nil]); first | done | rfl | (simp only [List.length_drop, List.length_take]; rfl)) ?_; (with_reducible refine (shelfmarklaw04_light.calls k _ _ l1 _ _ l2 true _ ?side1 ?side2 ?side3 ?side4 A9.out).mono ?_); (case side1 => repeat (first | exact (Kd.C_below HR1.out HB.out) | (with_reducible refine Kd.C_alloc ?_ _) | (with_reducible refine Kd.C_drewN ?_ _) | (with_reducible refine Kd.C_drew ?_))); (case side2 => exact HC1.out); (case side3 => repeat (first | exact (Kd.C_below HR2.out HB.out) | (with_reducible refine Kd.C_alloc ?_ _) | (with_reducible refine Kd.C_drewN ?_ _) | (with_reducible refine Kd.C_drew ?_))); (case side4 => exact HC2.out); rintro e w' ⟨rfl, ⟨nd, rfl⟩⟩; refine ⟨_, rfl, ?_⟩) | (go_at_call 9; (refine (shelfmarklaw04_light.calls k _ _ l3 _ _ ([] : List (S41)) t418 _ ?side1 ?side2 ?side3 ?side4 A11.out).mono ?_); (case side1 => repeat (first | exact (Kd.C_below HR3.out (by repeat (first | (with_reducible first | exact HB.out | apply below_alloc | apply pw_below_drewN | apply below_drew1) | exact HB.out))) | (with_reducible refine Kd.C_alloc ?_ _) | (with_reducible refine Kd.C_drewN ?_ _) | (with_reducible refine Kd.C_drew ?_))); (case side2 => exact HC3.out); (case side3 => exact Kd.C_nil _ _); (case side4 => exact Nat.le_refl _); rintro e w' ⟨rfl, ⟨nd, rfl⟩⟩))
        go_meet
        case rel => exact ⟨_, (!t418), (by first | rfl | (simp; done) | (simp [*]; done) | (simp [ne_nil_bytes]; done) | (simp [eq_nil_bytes]; done)), H', ⟨by first | omega | exact Nat.le_refl _⟩, ⟨by repeat (first | (with_reducible first | exact HB.out | apply below_alloc | apply pw_below_drewN | apply below_drew1) | exact HB.out)⟩⟩
      · replace c10 := Bool.eq_false_iff.mpr c10
        subst c10
        have H1 : (shelfmarklaw04_RecordAreas.j0 k a0 l1 l2 l3 true) = some r := by rw [if_neg (show ¬ (false = true) by decide)] at H; exact H
        clear H
        have H := H1
        clear H1
        have H' := Aside0.mk H
        clear H
        go_wp2_with (first | ((with_reducible refine gate_callee (f := 9) rfl ?_); refine goesL_ (some 17) rfl rfl Tryd.func9 (by kernel_rfl) rfl #[.slice A1 l1.length c1, .slice A2 l2.length c2] rfl (by (try simp only [List.map_toArray, List.map_cons, List.map_nil]); first | done | rfl | (simp only [List.length_drop, List.length_take]; rfl)) ?_; (with_reducible refine (shelfmarklaw04_light.calls k _ _ l1 _ _ l2 false _ ?side1 ?side2 ?side3 ?side4 A9.out).mono ?_); (case side1 => repeat (first | exact (Kd.C_below HR1.out HB.out) | (with_reducible refine Kd.C_alloc ?_ _) | (with_reducible refine Kd.C_drewN ?_ _) | (with_reducible refine Kd.C_drew ?_))); (case side2 => exact HC1.out); (case side3 => repeat (first | exact (Kd.C_below HR2.out HB.out) | (with_reducible refine Kd.C_alloc ?_ _) | (with_reducible refine Kd.C_drewN ?_ _) | (with_reducible refine Kd.C_drew ?_))); (case side4 => exact HC2.out); rintro e w' ⟨rfl, ⟨nd, rfl⟩⟩; refine ⟨_, rfl, ?_⟩))
        go_meet
        case rel => exact ⟨_, (true), (by first | rfl | (simp; done) | (simp [*]; done) | (simp [ne_nil_bytes]; done) | (simp [eq_nil_bytes]; done)), H', ⟨by first | omega | exact Nat.le_refl _⟩, ⟨by repeat (first | (with_reducible first | exact HB.out | apply below_alloc | apply pw_below_drewN | apply below_drew1) | exact HB.out)⟩⟩
    case rest =>
      clear HC7
      try clear c1
      try clear c2
      try clear p2
      try clear c3
      try clear c6
      try clear c8
      try clear c9
      try clear c10
      obtain ⟨kq, x23_6, rfl, HA, HJ6, HB⟩ := hcut
      cases kq with
      | zero => exact absurd HA.out (by simp [shelfmarklaw04_RecordAreas.j0])
      | succ kj6 =>
        have H := HA.out
        clear HA
        simp only [shelfmarklaw04_RecordAreas.j0] at H
        by_cases c12 : x23_6 = true
        · subst c12
          have H1 : (some true) = some r := by rw [if_pos rfl] at H; exact H
          clear H
          have H := H1
          clear H1
          obtain rfl := Option.some.inj H
          go_wp2
          go_ret
          exact ⟨by first | rfl | (simp [errW_none, errW_some] <;> rfl) | (simp [*, errW_none, errW_some] <;> rfl), by repeat (first | (with_reducible first | exact HB.out | apply below_alloc | apply pw_below_drewN | apply below_drew1) | exact HB.out)⟩
        · replace c12 := Bool.eq_false_iff.mpr c12
          subst c12
          have H1 : ((record_Area.f kj6 a0 l2 l3).bind fun bt419 => ((shelfmarkref04_Area.f kj6 a0 l2 l3).bind fun bt423 => (if (bt419.1.toList == bt423.1.toList && (bt419.2.1.toList == bt423.2.1.toList)) = true then (if bt419.2.2 = bt423.2.2 then ((record_Lies.f kj6 l1 l2 l3).bind fun t427 => ((shelfmarkref04_Lies.f kj6 l1 l2 l3).bind fun t428 => (some (t427 == t428)))) else (some false)) else (some false)))) = some r := by rw [if_neg (show ¬ (false = true) by decide)] at H; exact H
          clear H
          have H := H1
          clear H1
          replace H := Option.bind_eq_some_iff.mp H
          obtain ⟨⟨t419, t420, t421⟩, A130, H⟩ := H
          replace H : ((shelfmarkref04_Area.f kj6 a0 l2 l3).bind fun bt423 => (if (t419.toList == bt423.1.toList && (t420.toList == bt423.2.1.toList)) = true then (if t421 = bt423.2.2 then ((record_Lies.f kj6 l1 l2 l3).bind fun t427 => ((shelfmarkref04_Lies.f kj6 l1 l2 l3).bind fun t428 => (some (t427 == t428)))) else (some false)) else (some false))) = some r := H
          have A13 := Aside0.mk A130
          clear A130
          replace H := Option.bind_eq_some_iff.mp H
          obtain ⟨⟨t423, t424, t425⟩, A140, H⟩ := H
          replace H : (if (t419.toList == t423.toList && (t420.toList == t424.toList)) = true then (if t421 = t425 then ((record_Lies.f kj6 l1 l2 l3).bind fun t427 => ((shelfmarkref04_Lies.f kj6 l1 l2 l3).bind fun t428 => (some (t427 == t428)))) else (some false)) else (some false)) = some r := H
          have A14 := Aside0.mk A140
          clear A140
          by_cases c15 : (t419.toList == t423.toList && (t420.toList == t424.toList)) = true
          · rw [if_pos c15] at H
            have c15b0 : (t419.toList == t423.toList && (t420.toList == t424.toList)) = true := c15
            (try (have c15b1 : decide (t419.toList = t423.toList && (t420.toList == t424.toList)) = true := by simpa using c15))
            (try (have c15b2 : (t419.toList == t423.toList && (t420.toList == t424.toList)) = true := by simpa using c15))
            clear c15
            by_cases c16 : t421 = t425
            · rw [if_pos c16] at H
              have c16b0 : (t421 == t425) = true := beq_iff_eq.mpr c16
              have c16b1 : (t421 != t425) = false := bne_eq_false_iff_eq.mpr c16
              clear c16
              replace H := Option.bind_eq_some_iff.mp H
              obtain ⟨t427, A170, H⟩ := H
              replace H : ((shelfmarkref04_Lies.f kj6 l1 l2 l3).bind fun t428 => (some (t427 == t428))) = some r := H
              have A17 := Aside0.mk A170
              clear A170
              replace H := Option.bind_eq_some_iff.mp H
              obtain ⟨t428, A180, H⟩ := H
              replace H : (some (t427 == t428)) = some r := H
              have A18 := Aside0.mk A180
              clear A180
              obtain rfl := Option.some.inj H
              go_wp2_with (first | ((with_reducible refine gate_callee (f := 17) rfl ?_); refine goesL_ (some 28) rfl rfl Tryd.func17 (by kernel_rfl) rfl #[.int .i64 a0, .slice A2 l2.length c2, .slice A3 l3.length c3] rfl (by (try simp only [List.map_toArray, List.map_cons, List.map_nil]); first | done | rfl | (simp only [List.length_drop, List.length_take]; rfl)) ?_; (with_reducible refine (record_Area.calls kj6 a0 _ _ l2 _ _ l3 t419 t420 t421 _ ?side1 ?side2 ?side3 ?side4 A13.out).mono ?_); (case side1 => repeat (first | exact (Kd.C_below HR2.out HB.out) | (with_reducible refine Kd.C_alloc ?_ _) | (with_reducible refine Kd.C_drewN ?_ _) | (with_reducible refine Kd.C_drew ?_))); (case side2 => exact HC2.out); (case side3 => repeat (first | exact (Kd.C_below HR3.out HB.out) | (with_reducible refine Kd.C_alloc ?_ _) | (with_reducible refine Kd.C_drewN ?_ _) | (with_reducible refine Kd.C_drew ?_))); (case side4 => exact HC3.out); rintro e w19 ⟨rfl, hb⟩; refine ⟨_, rfl, ?_⟩; have n0_ := Aside0.mk (below_step (by repeat (first | (with_reducible first | exact HB.out | apply below_alloc | apply pw_below_drewN | apply below_drew1) | exact HB.out)) hb); clear HB; have HB := n0_; clear n0_; (try clear hb); (try clear hb2); (try clear hk); (try clear hi)) | ((with_reducible refine gate_dst (N := 9) rfl ?_); refine box_event ?hg (N := 9) ?hd (cs := #[.string (⟨#[]⟩ : ByteArray), .string (⟨#[]⟩ : ByteArray)]) (t := 43) ?hr ?_; (case hd => rfl); (case hg => rfl); (case hr => first | (go_simp; done) | (go_simp; rfl)); intro gb422 hg w20 hbox hb; have n0_ := Aside0.mk (below_step (by repeat (first | (with_reducible first | exact HB.out | apply below_alloc | apply pw_below_drewN | apply below_drew1) | exact HB.out)) hb); have n1_ := Aside0.mk (hbox); have n2_ := Aside0.mk ((by rw [hg]; exact (below_size (by repeat (first | (with_reducible first | exact HB.out | apply below_alloc | apply pw_below_drewN | apply below_drew1) | exact HB.out))) : w.heap.size ≤ gb422)); have n3_ := Aside0.mk ((by rw [hg]; exact (below_size (by repeat (first | (with_reducible first | exact HB.out | apply below_alloc | apply pw_below_drewN | apply below_drew1) | exact HB.out))) : w.heap.size ≤ gb422)); clear HB; have HB := n0_; have BK422 := n1_; have GW422 := n2_; have GE422 := n3_; clear n0_ n1_ n2_ n3_; clear hb hbox hg; have hcz21_0 : w20.cell? ⟨gb422, 0, none⟩ = some (.string (⟨#[]⟩ : ByteArray)) := (blk_cell BK422.out 0).trans rfl; have hcz21_1 : w20.cell? ⟨gb422, 1, none⟩ = some (.string (⟨#[]⟩ : ByteArray)) := (blk_cell BK422.out 1).trans rfl; have hfz21_0 := blk_frozen BK422.out 0; have hfz21_1 := blk_frozen BK422.out 1) | ((with_reducible refine gate_callee (f := 18) rfl ?_); refine goesL_ (some 35) rfl rfl Tryd.func18 (by kernel_rfl) rfl #[.int .i64 a0, .slice A2 l2.length c2, .slice A3 l3.length c3] rfl (by (try simp only [List.map_toArray, List.map_cons, List.map_nil]); first | done | rfl | (simp only [List.length_drop, List.length_take]; rfl)) ?_; (with_reducible refine (shelfmarkref04_Area.calls kj6 a0 _ _ l2 _ _ l3 t423 t424 t425 _ ?side1 ?side2 ?side3 ?side4 A14.out).mono ?_); (case side1 => exact Kd.C_below HR2.out (by repeat (first | (with_reducible first | exact HB.out | apply below_alloc | apply pw_below_drewN | apply below_drew1 | refine below_set ?_ GE422.out) | exact HB.out))); (case side2 => exact HC2.out); (case side3 => exact Kd.C_below HR3.out (by repeat (first | (with_reducible first | exact HB.out | apply below_alloc | apply pw_below_drewN | apply below_drew1 | refine below_set ?_ GE422.out) | exact HB.out))); (case side4 => exact HC3.out); rintro e w22 ⟨rfl, hb⟩; refine ⟨_, rfl, ?_⟩; have n0_ := Aside0.mk (blk_below (g := gb422) (o := .cells #[.string t419, .string t420] 43 (0, 0)) (by (with_reducible repeat (first | refine blk_drewN ?_ _ | refine blk_drew ?_ | refine blk_alloc ?_ _)); refine blk_put (cs := #[.string t419, .string (⟨#[]⟩ : ByteArray)]) ?_ 1 _ rfl; (with_reducible repeat (first | refine blk_drewN ?_ _ | refine blk_drew ?_ | refine blk_alloc ?_ _)); refine blk_put (cs := #[.string (⟨#[]⟩ : ByteArray), .string (⟨#[]⟩ : ByteArray)]) ?_ 0 _ rfl; (with_reducible repeat (first | refine blk_drewN ?_ _ | refine blk_drew ?_ | refine blk_alloc ?_ _)); exact BK422.out) hb); have n1_ := Aside0.mk (below_step (by repeat (first | (with_reducible first | exact HB.out | apply below_alloc | apply pw_below_drewN | apply below_drew1 | refine below_set ?_ GE422.out) | exact HB.out)) hb); clear BK422; clear HB; have BK422 := n0_; have HB := n1_; clear n0_ n1_; (try clear hb); (try clear hb2); (try clear hk); (try clear hi)) | ((with_reducible refine gate_dst (N := 11) rfl ?_); refine box_event ?hg (N := 11) ?hd (cs := #[.string (⟨#[]⟩ : ByteArray), .string (⟨#[]⟩ : ByteArray)]) (t := 43) ?hr ?_; (case hd => rfl); (case hg => rfl); (case hr => first | (go_simp; done) | (go_simp; rfl)); intro gb426 hg w23 hbox hb; have n0_ := Aside0.mk (blk_below (g := gb422) (o := .cells #[.string t419, .string t420] 43 (0, 0)) (by (with_reducible repeat (first | refine blk_drewN ?_ _ | refine blk_drew ?_ | refine blk_alloc ?_ _)); exact BK422.out) hb); have n1_ := Aside0.mk (below_step (by repeat (first | (with_reducible first | exact HB.out | apply below_alloc | apply pw_below_drewN | apply below_drew1 | refine below_set ?_ GE422.out) | exact HB.out)) hb); have n2_ := Aside0.mk (hbox); have n3_ := Aside0.mk ((by rw [hg]; exact (below_size (by repeat (first | (with_reducible first | exact HB.out | apply below_alloc | apply pw_below_drewN | apply below_drew1 | refine below_set ?_ GE422.out) | exact HB.out))) : w.heap.size ≤ gb426)); have n4_ := Aside0.mk ((by rw [hg]; exact (below_size (by repeat (first | (with_reducible first | exact HB.out | apply below_alloc | apply pw_below_drewN | apply below_drew1 | refine below_set ?_ GE422.out) | exact HB.out))) : w.heap.size ≤ gb426)); have n5_ := Aside0.mk ((by rw [hg]; exact Nat.ne_of_lt (blk_lt (g := gb422) (o := .cells #[.string t419, .string t420] 43 (0, 0)) (by (with_reducible repeat (first | refine blk_drewN ?_ _ | refine blk_drew ?_ | refine blk_alloc ?_ _)); exact BK422.out)) : gb422 ≠ gb426)); have n6_ := Aside0.mk ((by rw [hg]; exact Nat.ne_of_gt (blk_lt (g := gb422) (o := .cells #[.string t419, .string t420] 43 (0, 0)) (by (with_reducible repeat (first | refine blk_drewN ?_ _ | refine blk_drew ?_ | refine blk_alloc ?_ _)); exact BK422.out)) : gb426 ≠ gb422)); clear BK422; clear HB; have BK422 := n0_; have HB := n1_; have BK426 := n2_; have GW426 := n3_; have GE426 := n4_; have NB422_426 := n5_; have NB426_422 := n6_; clear n0_ n1_ n2_ n3_ n4_ n5_ n6_; clear hb hbox hg; have hnb24 := NB426_422.out; have hnc24 := NB422_426.out; have hcz25_0 : w23.cell? ⟨gb426, 0, none⟩ = some (.string (⟨#[]⟩ : ByteArray)) := (blk_cell BK426.out 0).trans rfl; have hcz25_1 : w23.cell? ⟨gb426, 1, none⟩ = some (.string (⟨#[]⟩ : ByteArray)) := (blk_cell BK426.out 1).trans rfl; have hfz25_0 := blk_frozen BK426.out 0; have hfz25_1 := blk_frozen BK426.out 1) | ((with_reducible refine gate_store (t := 43) (p := 11) rfl ?_); refine store_event (t := 43) (p := 11) (v := ?vo_w26) (w1 := ((w23.setCell ⟨gb426, 0, none⟩ (.string t423)).setCell ⟨gb426, 1, none⟩ (.string t424))) ?hg ?ho ?hn ?hr ?_; (case ho => rfl); (case hg => rfl); (case hn => rfl); (case hr => first | (go_simp; done) | (go_simp; rfl)); intro w26 hw; have n0_ : Aside0 (w26.heap[gb422]? = some (.cells #[.string t419, .string t420] 43 (0, 0))) := ⟨(by rw [hw]; exact (by (with_reducible repeat (first | refine blk_drewN ?_ _ | refine blk_drew ?_ | refine blk_alloc ?_ _)); refine blk_far ?_ NB422_426.out _; (with_reducible repeat (first | refine blk_drewN ?_ _ | refine blk_drew ?_ | refine blk_alloc ?_ _)); refine blk_far ?_ NB422_426.out _; (with_reducible repeat (first | refine blk_drewN ?_ _ | refine blk_drew ?_ | refine blk_alloc ?_ _)); exact BK422.out))⟩; have n1_ : Aside0 (w26.heap[gb426]? = some (.cells #[.string t423, .string t424] 43 (0, 0))) := ⟨(by rw [hw]; exact (by (with_reducible repeat (first | refine blk_drewN ?_ _ | refine blk_drew ?_ | refine blk_alloc ?_ _)); refine blk_put (cs := #[.string t423, .string (⟨#[]⟩ : ByteArray)]) ?_ 1 _ rfl; (with_reducible repeat (first | refine blk_drewN ?_ _ | refine blk_drew ?_ | refine blk_alloc ?_ _)); refine blk_put (cs := #[.string (⟨#[]⟩ : ByteArray), .string (⟨#[]⟩ : ByteArray)]) ?_ 0 _ rfl; (with_reducible repeat (first | refine blk_drewN ?_ _ | refine blk_drew ?_ | refine blk_alloc ?_ _)); exact BK426.out))⟩; have n2_ : Aside0 (Below w.heap.size w w26) := ⟨(by rw [hw]; exact (by repeat (first | (with_reducible first | exact HB.out | apply below_alloc | apply pw_below_drewN | apply below_drew1 | refine below_set ?_ GE422.out | refine below_set ?_ GE426.out) | exact HB.out)))⟩; clear hw; clear BK422; clear BK426; clear HB; have BK422 := n0_; have BK426 := n1_; have HB := n2_; clear n0_ n1_ n2_; have hcz27_0 : w26.cell? ⟨gb422, 0, none⟩ = some (.string t419) := (blk_cell BK422.out 0).trans rfl; have hcz27_1 : w26.cell? ⟨gb422, 1, none⟩ = some (.string t420) := (blk_cell BK422.out 1).trans rfl; have hfz27_0 := blk_frozen BK422.out 0; have hfz27_1 := blk_frozen BK422.out 1; have hcz28_0 : w26.cell? ⟨gb426, 0, none⟩ = some (.string t423) := (blk_cell BK426.out 0).trans rfl; have hcz28_1 : w26.cell? ⟨gb426, 1, none⟩ = some (.string t424) := (blk_cell BK426.out 1).trans rfl; have hfz28_0 := blk_frozen BK426.out 0; have hfz28_1 := blk_frozen BK426.out 1) | (go_at_call 19; (with_reducible refine (record_Lies.calls kj6 (fun k_ => k_ < w.heap.size) _ _ l1 (fun k_ => k_ < w.heap.size) _ _ l2 (fun k_ => k_ < w.heap.size) _ _ l3 t427 _ ?side1 ?side2 ?side3 A17.out).mono ?_); (case side1 => exact Kd.V_mk HC1.out (Kd.F_below (Kd.C_F k41_heap HR1.out) (by repeat (first | (with_reducible first | exact HB.out | apply below_alloc | apply pw_below_drewN | apply below_drew1 | refine below_set ?_ GE422.out | refine below_set ?_ GE426.out) | exact HB.out)))); (case side2 => exact Kd.V_mk HC2.out (Kd.F_below (Kd.C_F k41_heap HR2.out) (by repeat (first | (with_reducible first | exact HB.out | apply below_alloc | apply pw_below_drewN | apply below_drew1 | refine below_set ?_ GE422.out | refine below_set ?_ GE426.out) | exact HB.out)))); (case side3 => exact Kd.V_mk HC3.out (Kd.F_below (Kd.C_F k41_heap HR3.out) (by repeat (first | (with_reducible first | exact HB.out | apply below_alloc | apply pw_below_drewN | apply below_drew1 | refine below_set ?_ GE422.out | refine below_set ?_ GE426.out) | exact HB.out)))); rintro e w29 ⟨rfl, hb⟩; have n0_ := Aside0.mk (blk_below (g := gb422) (o := .cells #[.string t419, .string t420] 43 (0, 0)) (by (with_reducible repeat (first | refine blk_drewN ?_ _ | refine blk_drew ?_ | refine blk_alloc ?_ _)); exact BK422.out) hb); have n1_ := Aside0.mk (blk_below (g := gb426) (o := .cells #[.string t423, .string t424] 43 (0, 0)) (by (with_reducible repeat (first | refine blk_drewN ?_ _ | refine blk_drew ?_ | refine blk_alloc ?_ _)); exact BK426.out) hb); have n2_ := Aside0.mk (below_step (by repeat (first | (with_reducible first | exact HB.out | apply below_alloc | apply pw_below_drewN | apply below_drew1 | refine below_set ?_ GE422.out | refine below_set ?_ GE426.out) | exact HB.out)) hb); clear BK422; clear BK426; clear HB; have BK422 := n0_; have BK426 := n1_; have HB := n2_; clear n0_ n1_ n2_; (try clear hb); (try clear hb2); (try clear hk); (try clear hi)) | (go_at_call 20; (with_reducible refine (shelfmarkref04_Lies.calls kj6 _ _ l1 _ _ l2 _ _ l3 t428 _ ?side1 ?side2 ?side3 ?side4 ?side5 ?side6 A18.out).mono ?_); (case side1 => repeat (first | exact (Kd.C_below HR1.out HB.out) | (with_reducible refine Kd.C_alloc ?_ _) | (with_reducible refine Kd.C_drewN ?_ _) | (with_reducible refine Kd.C_drew ?_))); (case side2 => exact HC1.out); (case side3 => repeat (first | exact (Kd.C_below HR2.out HB.out) | (with_reducible refine Kd.C_alloc ?_ _) | (with_reducible refine Kd.C_drewN ?_ _) | (with_reducible refine Kd.C_drew ?_))); (case side4 => exact HC2.out); (case side5 => repeat (first | exact (Kd.C_below HR3.out HB.out) | (with_reducible refine Kd.C_alloc ?_ _) | (with_reducible refine Kd.C_drewN ?_ _) | (with_reducible refine Kd.C_drew ?_))); (case side6 => exact HC3.out); rintro e w30 ⟨rfl, hb⟩; have n0_ := Aside0.mk (blk_below (g := gb422) (o := .cells #[.string t419, .string t420] 43 (0, 0)) (by (with_reducible repeat (first | refine blk_drewN ?_ _ | refine blk_drew ?_ | refine blk_alloc ?_ _)); exact BK422.out) hb); have n1_ := Aside0.mk (blk_below (g := gb426) (o := .cells #[.string t423, .string t424] 43 (0, 0)) (by (with_reducible repeat (first | refine blk_drewN ?_ _ | refine blk_drew ?_ | refine blk_alloc ?_ _)); exact BK426.out) hb); have n2_ := Aside0.mk (below_step (by repeat (first | (with_reducible first | exact HB.out | apply below_alloc | apply pw_below_drewN | apply below_drew1 | refine below_set ?_ GE422.out | refine below_set ?_ GE426.out) | exact HB.out)) hb); clear BK422; clear BK426; clear HB; have BK422 := n0_; have BK426 := n1_; have HB := n2_; clear n0_ n1_ n2_; (try clear hb); (try clear hb2); (try clear hk); (try clear hi)))
              go_ret
              exact ⟨by first | rfl | (simp [errW_none, errW_some] <;> rfl) | (simp [*, errW_none, errW_some] <;> rfl), by repeat (first | (with_reducible first | exact HB.out | apply below_alloc | apply pw_below_drewN | apply below_drew1 | refine below_set ?_ GE422.out | refine below_set ?_ GE426.out) | exact HB.out)⟩
            · rw [if_neg c16] at H
              have c16b0 : (t421 == t425) = false := beq_eq_false_iff_ne.mpr c16
              have c16b1 : (t421 != t425) = true := bne_iff_ne.mpr c16
              obtain rfl := Option.some.inj H
              go_wp2_with (first | ((with_reducible refine gate_callee (f := 17) rfl ?_); refine goesL_ (some 28) rfl rfl Tryd.func17 (by kernel_rfl) rfl #[.int .i64 a0, .slice A2 l2.length c2, .slice A3 l3.length c3] rfl (by (try simp only [List.map_toArray, List.map_cons, List.map_nil]); first | done | rfl | (simp only [List.length_drop, List.length_take]; rfl)) ?_; (with_reducible refine (record_Area.calls kj6 a0 _ _ l2 _ _ l3 t419 t420 t421 _ ?side1 ?side2 ?side3 ?side4 A13.out).mono ?_); (case side1 => repeat (first | exact (Kd.C_below HR2.out HB.out) | (with_reducible refine Kd.C_alloc ?_ _) | (with_reducible refine Kd.C_drewN ?_ _) | (with_reducible refine Kd.C_drew ?_))); (case side2 => exact HC2.out); (case side3 => repeat (first | exact (Kd.C_below HR3.out HB.out) | (with_reducible refine Kd.C_alloc ?_ _) | (with_reducible refine Kd.C_drewN ?_ _) | (with_reducible refine Kd.C_drew ?_))); (case side4 => exact HC3.out); rintro e w31 ⟨rfl, hb⟩; refine ⟨_, rfl, ?_⟩; have n0_ := Aside0.mk (below_step (by repeat (first | (with_reducible first | exact HB.out | apply below_alloc | apply pw_below_drewN | apply below_drew1) | exact HB.out)) hb); clear HB; have HB := n0_; clear n0_; (try clear hb); (try clear hb2); (try clear hk); (try clear hi)) | ((with_reducible refine gate_dst (N := 9) rfl ?_); refine box_event ?hg (N := 9) ?hd (cs := #[.string (⟨#[]⟩ : ByteArray), .string (⟨#[]⟩ : ByteArray)]) (t := 43) ?hr ?_; (case hd => rfl); (case hg => rfl); (case hr => first | (go_simp; done) | (go_simp; rfl)); intro gb422 hg w32 hbox hb; have n0_ := Aside0.mk (below_step (by repeat (first | (with_reducible first | exact HB.out | apply below_alloc | apply pw_below_drewN | apply below_drew1) | exact HB.out)) hb); have n1_ := Aside0.mk (hbox); have n2_ := Aside0.mk ((by rw [hg]; exact (below_size (by repeat (first | (with_reducible first | exact HB.out | apply below_alloc | apply pw_below_drewN | apply below_drew1) | exact HB.out))) : w.heap.size ≤ gb422)); have n3_ := Aside0.mk ((by rw [hg]; exact (below_size (by repeat (first | (with_reducible first | exact HB.out | apply below_alloc | apply pw_below_drewN | apply below_drew1) | exact HB.out))) : w.heap.size ≤ gb422)); clear HB; have HB := n0_; have BK422 := n1_; have GW422 := n2_; have GE422 := n3_; clear n0_ n1_ n2_ n3_; clear hb hbox hg; have hcz33_0 : w32.cell? ⟨gb422, 0, none⟩ = some (.string (⟨#[]⟩ : ByteArray)) := (blk_cell BK422.out 0).trans rfl; have hcz33_1 : w32.cell? ⟨gb422, 1, none⟩ = some (.string (⟨#[]⟩ : ByteArray)) := (blk_cell BK422.out 1).trans rfl; have hfz33_0 := blk_frozen BK422.out 0; have hfz33_1 := blk_frozen BK422.out 1) | ((with_reducible refine gate_callee (f := 18) rfl ?_); refine goesL_ (some 35) rfl rfl Tryd.func18 (by kernel_rfl) rfl #[.int .i64 a0, .slice A2 l2.length c2, .slice A3 l3.length c3] rfl (by (try simp only [List.map_toArray, List.map_cons, List.map_nil]); first | done | rfl | (simp only [List.length_drop, List.length_take]; rfl)) ?_; (with_reducible refine (shelfmarkref04_Area.calls kj6 a0 _ _ l2 _ _ l3 t423 t424 t425 _ ?side1 ?side2 ?side3 ?side4 A14.out).mono ?_); (case side1 => exact Kd.C_below HR2.out (by repeat (first | (with_reducible first | exact HB.out | apply below_alloc | apply pw_below_drewN | apply below_drew1 | refine below_set ?_ GE422.out) | exact HB.out))); (case side2 => exact HC2.out); (case side3 => exact Kd.C_below HR3.out (by repeat (first | (with_reducible first | exact HB.out | apply below_alloc | apply pw_below_drewN | apply below_drew1 | refine below_set ?_ GE422.out) | exact HB.out))); (case side4 => exact HC3.out); rintro e w34 ⟨rfl, hb⟩; refine ⟨_, rfl, ?_⟩; have n0_ := Aside0.mk (blk_below (g := gb422) (o := .cells #[.string t419, .string t420] 43 (0, 0)) (by (with_reducible repeat (first | refine blk_drewN ?_ _ | refine blk_drew ?_ | refine blk_alloc ?_ _)); refine blk_put (cs := #[.string t419, .string (⟨#[]⟩ : ByteArray)]) ?_ 1 _ rfl; (with_reducible repeat (first | refine blk_drewN ?_ _ | refine blk_drew ?_ | refine blk_alloc ?_ _)); refine blk_put (cs := #[.string (⟨#[]⟩ : ByteArray), .string (⟨#[]⟩ : ByteArray)]) ?_ 0 _ rfl; (with_reducible repeat (first | refine blk_drewN ?_ _ | refine blk_drew ?_ | refine blk_alloc ?_ _)); exact BK422.out) hb); have n1_ := Aside0.mk (below_step (by repeat (first | (with_reducible first | exact HB.out | apply below_alloc | apply pw_below_drewN | apply below_drew1 | refine below_set ?_ GE422.out) | exact HB.out)) hb); clear BK422; clear HB; have BK422 := n0_; have HB := n1_; clear n0_ n1_; (try clear hb); (try clear hb2); (try clear hk); (try clear hi)) | ((with_reducible refine gate_dst (N := 11) rfl ?_); refine box_event ?hg (N := 11) ?hd (cs := #[.string (⟨#[]⟩ : ByteArray), .string (⟨#[]⟩ : ByteArray)]) (t := 43) ?hr ?_; (case hd => rfl); (case hg => rfl); (case hr => first | (go_simp; done) | (go_simp; rfl)); intro gb426 hg w35 hbox hb; have n0_ := Aside0.mk (blk_below (g := gb422) (o := .cells #[.string t419, .string t420] 43 (0, 0)) (by (with_reducible repeat (first | refine blk_drewN ?_ _ | refine blk_drew ?_ | refine blk_alloc ?_ _)); exact BK422.out) hb); have n1_ := Aside0.mk (below_step (by repeat (first | (with_reducible first | exact HB.out | apply below_alloc | apply pw_below_drewN | apply below_drew1 | refine below_set ?_ GE422.out) | exact HB.out)) hb); have n2_ := Aside0.mk (hbox); have n3_ := Aside0.mk ((by rw [hg]; exact (below_size (by repeat (first | (with_reducible first | exact HB.out | apply below_alloc | apply pw_below_drewN | apply below_drew1 | refine below_set ?_ GE422.out) | exact HB.out))) : w.heap.size ≤ gb426)); have n4_ := Aside0.mk ((by rw [hg]; exact (below_size (by repeat (first | (with_reducible first | exact HB.out | apply below_alloc | apply pw_below_drewN | apply below_drew1 | refine below_set ?_ GE422.out) | exact HB.out))) : w.heap.size ≤ gb426)); have n5_ := Aside0.mk ((by rw [hg]; exact Nat.ne_of_lt (blk_lt (g := gb422) (o := .cells #[.string t419, .string t420] 43 (0, 0)) (by (with_reducible repeat (first | refine blk_drewN ?_ _ | refine blk_drew ?_ | refine blk_alloc ?_ _)); exact BK422.out)) : gb422 ≠ gb426)); have n6_ := Aside0.mk ((by rw [hg]; exact Nat.ne_of_gt (blk_lt (g := gb422) (o := .cells #[.string t419, .string t420] 43 (0, 0)) (by (with_reducible repeat (first | refine blk_drewN ?_ _ | refine blk_drew ?_ | refine blk_alloc ?_ _)); exact BK422.out)) : gb426 ≠ gb422)); clear BK422; clear HB; have BK422 := n0_; have HB := n1_; have BK426 := n2_; have GW426 := n3_; have GE426 := n4_; have NB422_426 := n5_; have NB426_422 := n6_; clear n0_ n1_ n2_ n3_ n4_ n5_ n6_; clear hb hbox hg; have hnb36 := NB426_422.out; have hnc36 := NB422_426.out; have hcz37_0 : w35.cell? ⟨gb426, 0, none⟩ = some (.string (⟨#[]⟩ : ByteArray)) := (blk_cell BK426.out 0).trans rfl; have hcz37_1 : w35.cell? ⟨gb426, 1, none⟩ = some (.string (⟨#[]⟩ : ByteArray)) := (blk_cell BK426.out 1).trans rfl; have hfz37_0 := blk_frozen BK426.out 0; have hfz37_1 := blk_frozen BK426.out 1; have hcz38_0 : w35.cell? ⟨gb422, 0, none⟩ = some (.string t419) := (blk_cell BK422.out 0).trans rfl; have hcz38_1 : w35.cell? ⟨gb422, 1, none⟩ = some (.string t420) := (blk_cell BK422.out 1).trans rfl; have hfz38_0 := blk_frozen BK422.out 0; have hfz38_1 := blk_frozen BK422.out 1))
              go_ret
              exact ⟨by first | rfl | (simp [errW_none, errW_some] <;> rfl) | (simp [*, errW_none, errW_some] <;> rfl), by repeat (first | (with_reducible first | exact HB.out | apply below_alloc | apply pw_below_drewN | apply below_drew1 | refine below_set ?_ GE422.out | refine below_set ?_ GE426.out) | exact HB.out)⟩
          · rw [if_neg c15] at H
            have c15b0 : (t419.toList == t423.toList && (t420.toList == t424.toList)) = false := by simpa using c15
            (try (have c15b1 : decide (t419.toList = t423.toList && (t420.toList == t424.toList)) = false := by simpa using c15))
            (try (have c15b2 : (t419.toList == t423.toList && (t420.toList == t424.toList)) = false := by simpa using c15))
            (try (have c15b3 : ¬ (t419.toList = t423.toList && (t420.toList == t424.toList)) := by simpa using c15))
            clear c15
            obtain rfl := Option.some.inj H
            go_wp2_with (first | ((with_reducible refine gate_callee (f := 17) rfl ?_); refine goesL_ (some 28) rfl rfl Tryd.func17 (by kernel_rfl) rfl #[.int .i64 a0, .slice A2 l2.length c2, .slice A3 l3.length c3] rfl (by (try simp only [List.map_toArray, List.map_cons, List.map_nil]); first | done | rfl | (simp only [List.length_drop, List.length_take]; rfl)) ?_; (with_reducible refine (record_Area.calls kj6 a0 _ _ l2 _ _ l3 t419 t420 t421 _ ?side1 ?side2 ?side3 ?side4 A13.out).mono ?_); (case side1 => repeat (first | exact (Kd.C_below HR2.out HB.out) | (with_reducible refine Kd.C_alloc ?_ _) | (with_reducible refine Kd.C_drewN ?_ _) | (with_reducible refine Kd.C_drew ?_))); (case side2 => exact HC2.out); (case side3 => repeat (first | exact (Kd.C_below HR3.out HB.out) | (with_reducible refine Kd.C_alloc ?_ _) | (with_reducible refine Kd.C_drewN ?_ _) | (with_reducible refine Kd.C_drew ?_))); (case side4 => exact HC3.out); rintro e w39 ⟨rfl, hb⟩; refine ⟨_, rfl, ?_⟩; have n0_ := Aside0.mk (below_step (by repeat (first | (with_reducible first | exact HB.out | apply below_alloc | apply pw_below_drewN | apply below_drew1) | exact HB.out)) hb); clear HB; have HB := n0_; clear n0_; (try clear hb); (try clear hb2); (try clear hk); (try clear hi)) | ((with_reducible refine gate_dst (N := 9) rfl ?_); refine box_event ?hg (N := 9) ?hd (cs := #[.string (⟨#[]⟩ : ByteArray), .string (⟨#[]⟩ : ByteArray)]) (t := 43) ?hr ?_; (case hd => rfl); (case hg => rfl); (case hr => first | (go_simp; done) | (go_simp; rfl)); intro gb422 hg w40 hbox hb; have n0_ := Aside0.mk (below_step (by repeat (first | (with_reducible first | exact HB.out | apply below_alloc | apply pw_below_drewN | apply below_drew1) | exact HB.out)) hb); have n1_ := Aside0.mk (hbox); have n2_ := Aside0.mk ((by rw [hg]; exact (below_size (by repeat (first | (with_reducible first | exact HB.out | apply below_alloc | apply pw_below_drewN | apply below_drew1) | exact HB.out))) : w.heap.size ≤ gb422)); have n3_ := Aside0.mk ((by rw [hg]; exact (below_size (by repeat (first | (with_reducible first | exact HB.out | apply below_alloc | apply pw_below_drewN | apply below_drew1) | exact HB.out))) : w.heap.size ≤ gb422)); clear HB; have HB := n0_; have BK422 := n1_; have GW422 := n2_; have GE422 := n3_; clear n0_ n1_ n2_ n3_; clear hb hbox hg; have hcz41_0 : w40.cell? ⟨gb422, 0, none⟩ = some (.string (⟨#[]⟩ : ByteArray)) := (blk_cell BK422.out 0).trans rfl; have hcz41_1 : w40.cell? ⟨gb422, 1, none⟩ = some (.string (⟨#[]⟩ : ByteArray)) := (blk_cell BK422.out 1).trans rfl; have hfz41_0 := blk_frozen BK422.out 0; have hfz41_1 := blk_frozen BK422.out 1) | ((with_reducible refine gate_callee (f := 18) rfl ?_); refine goesL_ (some 35) rfl rfl Tryd.func18 (by kernel_rfl) rfl #[.int .i64 a0, .slice A2 l2.length c2, .slice A3 l3.length c3] rfl (by (try simp only [List.map_toArray, List.map_cons, List.map_nil]); first | done | rfl | (simp only [List.length_drop, List.length_take]; rfl)) ?_; (with_reducible refine (shelfmarkref04_Area.calls kj6 a0 _ _ l2 _ _ l3 t423 t424 t425 _ ?side1 ?side2 ?side3 ?side4 A14.out).mono ?_); (case side1 => exact Kd.C_below HR2.out (by repeat (first | (with_reducible first | exact HB.out | apply below_alloc | apply pw_below_drewN | apply below_drew1 | refine below_set ?_ GE422.out) | exact HB.out))); (case side2 => exact HC2.out); (case side3 => exact Kd.C_below HR3.out (by repeat (first | (with_reducible first | exact HB.out | apply below_alloc | apply pw_below_drewN | apply below_drew1 | refine below_set ?_ GE422.out) | exact HB.out))); (case side4 => exact HC3.out); rintro e w42 ⟨rfl, hb⟩; refine ⟨_, rfl, ?_⟩; have n0_ := Aside0.mk (blk_below (g := gb422) (o := .cells #[.string t419, .string t420] 43 (0, 0)) (by (with_reducible repeat (first | refine blk_drewN ?_ _ | refine blk_drew ?_ | refine blk_alloc ?_ _)); refine blk_put (cs := #[.string t419, .string (⟨#[]⟩ : ByteArray)]) ?_ 1 _ rfl; (with_reducible repeat (first | refine blk_drewN ?_ _ | refine blk_drew ?_ | refine blk_alloc ?_ _)); refine blk_put (cs := #[.string (⟨#[]⟩ : ByteArray), .string (⟨#[]⟩ : ByteArray)]) ?_ 0 _ rfl; (with_reducible repeat (first | refine blk_drewN ?_ _ | refine blk_drew ?_ | refine blk_alloc ?_ _)); exact BK422.out) hb); have n1_ := Aside0.mk (below_step (by repeat (first | (with_reducible first | exact HB.out | apply below_alloc | apply pw_below_drewN | apply below_drew1 | refine below_set ?_ GE422.out) | exact HB.out)) hb); clear BK422; clear HB; have BK422 := n0_; have HB := n1_; clear n0_ n1_; (try clear hb); (try clear hb2); (try clear hk); (try clear hi)) | ((with_reducible refine gate_dst (N := 11) rfl ?_); refine box_event ?hg (N := 11) ?hd (cs := #[.string (⟨#[]⟩ : ByteArray), .string (⟨#[]⟩ : ByteArray)]) (t := 43) ?hr ?_; (case hd => rfl); (case hg => rfl); (case hr => first | (go_simp; done) | (go_simp; rfl)); intro gb426 hg w43 hbox hb; have n0_ := Aside0.mk (blk_below (g := gb422) (o := .cells #[.string t419, .string t420] 43 (0, 0)) (by (with_reducible repeat (first | refine blk_drewN ?_ _ | refine blk_drew ?_ | refine blk_alloc ?_ _)); exact BK422.out) hb); have n1_ := Aside0.mk (below_step (by repeat (first | (with_reducible first | exact HB.out | apply below_alloc | apply pw_below_drewN | apply below_drew1 | refine below_set ?_ GE422.out) | exact HB.out)) hb); have n2_ := Aside0.mk (hbox); have n3_ := Aside0.mk ((by rw [hg]; exact (below_size (by repeat (first | (with_reducible first | exact HB.out | apply below_alloc | apply pw_below_drewN | apply below_drew1 | refine below_set ?_ GE422.out) | exact HB.out))) : w.heap.size ≤ gb426)); have n4_ := Aside0.mk ((by rw [hg]; exact (below_size (by repeat (first | (with_reducible first | exact HB.out | apply below_alloc | apply pw_below_drewN | apply below_drew1 | refine below_set ?_ GE422.out) | exact HB.out))) : w.heap.size ≤ gb426)); have n5_ := Aside0.mk ((by rw [hg]; exact Nat.ne_of_lt (blk_lt (g := gb422) (o := .cells #[.string t419, .string t420] 43 (0, 0)) (by (with_reducible repeat (first | refine blk_drewN ?_ _ | refine blk_drew ?_ | refine blk_alloc ?_ _)); exact BK422.out)) : gb422 ≠ gb426)); have n6_ := Aside0.mk ((by rw [hg]; exact Nat.ne_of_gt (blk_lt (g := gb422) (o := .cells #[.string t419, .string t420] 43 (0, 0)) (by (with_reducible repeat (first | refine blk_drewN ?_ _ | refine blk_drew ?_ | refine blk_alloc ?_ _)); exact BK422.out)) : gb426 ≠ gb422)); clear BK422; clear HB; have BK422 := n0_; have HB := n1_; have BK426 := n2_; have GW426 := n3_; have GE426 := n4_; have NB422_426 := n5_; have NB426_422 := n6_; clear n0_ n1_ n2_ n3_ n4_ n5_ n6_; clear hb hbox hg; have hnb44 := NB426_422.out; have hnc44 := NB422_426.out; have hcz45_0 : w43.cell? ⟨gb426, 0, none⟩ = some (.string (⟨#[]⟩ : ByteArray)) := (blk_cell BK426.out 0).trans rfl; have hcz45_1 : w43.cell? ⟨gb426, 1, none⟩ = some (.string (⟨#[]⟩ : ByteArray)) := (blk_cell BK426.out 1).trans rfl; have hfz45_0 := blk_frozen BK426.out 0; have hfz45_1 := blk_frozen BK426.out 1; have hcz46_0 : w43.cell? ⟨gb422, 0, none⟩ = some (.string t419) := (blk_cell BK422.out 0).trans rfl; have hcz46_1 : w43.cell? ⟨gb422, 1, none⟩ = some (.string t420) := (blk_cell BK422.out 1).trans rfl; have hfz46_0 := blk_frozen BK422.out 0; have hfz46_1 := blk_frozen BK422.out 1))
            go_ret
            exact ⟨by first | rfl | (simp [errW_none, errW_some] <;> rfl) | (simp [*, errW_none, errW_some] <;> rfl), by repeat (first | (with_reducible first | exact HB.out | apply below_alloc | apply pw_below_drewN | apply below_drew1 | refine below_set ?_ GE422.out | refine below_set ?_ GE426.out) | exact HB.out)⟩
  · replace c6 := Bool.eq_false_iff.mpr c6
    subst c6
    have H1 : (some false) = some r := by rw [if_neg (show ¬ (false = true) by decide)] at H; exact H
    clear H
    have H := H1
    clear H1
    obtain rfl := Option.some.inj H
    go_enter Tryd.func6, Tryd.ntmps6
    go_wp2_with (first | ((with_reducible refine gate_callee (f := 8) rfl ?_); refine goesL_ (some 13) rfl rfl Tryd.func8 (by kernel_rfl) rfl #[] rfl (by (try simp only [List.map_toArray, List.map_cons, List.map_nil]); first | done | rfl | (simp only [List.length_drop, List.length_take]; rfl)) ?_; (with_reducible refine (shelfmarklaw04_awake.calls k  false _ A5.out).mono ?_); rintro e w47 ⟨rfl, hb⟩; refine ⟨_, rfl, ?_⟩; have n0_ := Aside0.mk (below_step (by repeat (first | (with_reducible first | exact HB.out | apply below_alloc | apply pw_below_drewN | apply below_drew1) | exact HB.out)) hb); clear HB; have HB := n0_; clear n0_; (try clear hb); (try clear hb2); (try clear hk); (try clear hi)))
    go_ret
    exact ⟨by first | rfl | (simp [errW_none, errW_some] <;> rfl) | (simp [*, errW_none, errW_some] <;> rfl), by repeat (first | (with_reducible first | exact HB.out | apply below_alloc | apply pw_below_drewN | apply below_drew1) | exact HB.out)⟩

end Go.Proofs.YtieifhjjjlmkbaaDoor.PAll
