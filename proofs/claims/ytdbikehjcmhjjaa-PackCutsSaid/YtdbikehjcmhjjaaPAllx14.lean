-- Written by a program of this session for this claim (mp.py, over the kit's print); Lean checks it.
import Derived.Test.YtdbikehjcmhjjaaPAllx0
import Derived.Test.YtdbikehjcmhjjaaPAllx1
import Derived.Test.YtdbikehjcmhjjaaPAllx2
import Derived.Test.YtdbikehjcmhjjaaPAllx4
import Derived.Test.YtdbikehjcmhjjaaPAllx6
import Derived.Test.YtdbikehjcmhjjaaPAllx8
import Derived.Test.YtdbikehjcmhjjaaPAllx9
namespace Go.Proofs.Ytdbikehjcmhjjaa.PAll
open Go.RowKit Go.Proofs.YtdbikehjcmhjjaaW.PrintWords Go.Proofs.YtdbikehjcmhjjaaW.PrintLast Go.Proofs.YtdbikehjcmhjjaaW.PrintMore
attribute [local go_sem] max2_int min2_int max_two min_two max_three min_three max_four min_four   -- for this text's walks alone
set_option linter.unusedVariables false
set_option linter.unusedSimpArgs false

/-! ### shelfmarklaw01_PackCuts: function 8 -/
mutual
def shelfmarklaw01_PackCuts.j0 : Nat → Int → ByteArray → List ByteArray → Bool → Option (Bool)
  | 0, _, _, _, _ => none
  | k + 1, x0, x1, x2, x35 => if x35 = true then (some true) else ((pack_Num.f k x0).bind fun t401 => ((pack_Text.f k x1).bind fun t404 => ((pack_Texts.f k x2).bind fun t407 => (shelfmarklaw01_PackCuts.l0 k t401 t404 t407 0))))
def shelfmarklaw01_PackCuts.l0 : Nat → List Int → List Int → List Int → Int → Option (Bool)
  | 0, _, _, _, _ => none
  | k + 1, x7, x8, x9, x10 => if x10 < (x7.length : Int) then (if 0 ≤ x10 then (if x10 ≤ (x7.length : Int) then ((pack_GetNum.f k (x7.take (x10 : Int).toNat) 0).bind fun bt414 => (if bt414.2.2 = 2 then (shelfmarklaw01_PackCuts.l0 k x7 x8 x9 (wrap64 (x10 + 1))) else (some false))) else (none)) else (none)) else (shelfmarklaw01_PackCuts.l1 k x8 x9 0)
def shelfmarklaw01_PackCuts.l1 : Nat → List Int → List Int → Int → Option (Bool)
  | 0, _, _, _ => none
  | k + 1, x8, x9, x14 => if x14 < (x8.length : Int) then (if 0 ≤ x14 then (if x14 ≤ (x8.length : Int) then ((pack_GetText.f k (x8.take (x14 : Int).toNat) 0 1000).bind fun bt421 => (if bt421.2.2 = 2 then (shelfmarklaw01_PackCuts.l1 k x8 x9 (wrap64 (x14 + 1))) else (some false))) else (none)) else (none)) else (shelfmarklaw01_PackCuts.l2 k x9 0)
def shelfmarklaw01_PackCuts.l2 : Nat → List Int → Int → Option (Bool)
  | 0, _, _ => none
  | k + 1, x9, x18 => if x18 < (x9.length : Int) then (if 0 ≤ x18 then (if x18 ≤ (x9.length : Int) then ((pack_GetTexts.f k (x9.take (x18 : Int).toNat) 0 1000 1000).bind fun bt428 => (if bt428.2.2 = 2 then (shelfmarklaw01_PackCuts.l2 k x9 (wrap64 (x18 + 1))) else (some false))) else (none)) else (none)) else (some true)
end
def shelfmarklaw01_PackCuts.f (k : Nat) (a0 : Int) (a1 : ByteArray) (l2 : List ByteArray) : Option (Bool) := (shelfmarklaw01_awake.f k).bind fun t399 => (if t399 = true then (if a0 < 0 then (shelfmarklaw01_PackCuts.j0 k a0 a1 l2 true) else (if (a1.size : Int) > 1000 then (shelfmarklaw01_PackCuts.j0 k a0 a1 l2 true) else ((shelfmarkref01_Bulk.f k l2 1000).bind fun t400 => (shelfmarklaw01_PackCuts.j0 k a0 a1 l2 (decide (t400 > 1000)))))) else (some false))
theorem shelfmarklaw01_PackCuts.mono_l : ∀ k, (∀ y0 y1 y2 y3, LeO (shelfmarklaw01_PackCuts.j0 k y0 y1 y2 y3) (shelfmarklaw01_PackCuts.j0 (k + 1) y0 y1 y2 y3)) ∧ (∀ y0 y1 y2 y3, LeO (shelfmarklaw01_PackCuts.l0 k y0 y1 y2 y3) (shelfmarklaw01_PackCuts.l0 (k + 1) y0 y1 y2 y3)) ∧ (∀ y0 y1 y2, LeO (shelfmarklaw01_PackCuts.l1 k y0 y1 y2) (shelfmarklaw01_PackCuts.l1 (k + 1) y0 y1 y2)) ∧ (∀ y0 y1, LeO (shelfmarklaw01_PackCuts.l2 k y0 y1) (shelfmarklaw01_PackCuts.l2 (k + 1) y0 y1))
  | 0 => ⟨fun _ _ _ _ r h => by simp [shelfmarklaw01_PackCuts.j0] at h, fun _ _ _ _ r h => by simp [shelfmarklaw01_PackCuts.l0] at h, fun _ _ _ r h => by simp [shelfmarklaw01_PackCuts.l1] at h, fun _ _ r h => by simp [shelfmarklaw01_PackCuts.l2] at h⟩
  | k + 1 => by
    obtain ⟨ih0, ih1, ih2, ih3⟩ := shelfmarklaw01_PackCuts.mono_l k
    refine ⟨?_, ?_, ?_, ?_⟩
    · intro y0 y1 y2 y3
      unfold shelfmarklaw01_PackCuts.j0
      repeat' first
      | (with_reducible exact ih0 _ _ _ _)
      | (with_reducible exact ih1 _ _ _ _)
      | (with_reducible exact ih2 _ _ _)
      | (with_reducible exact ih3 _ _)
      | (with_reducible exact pack_GetNum.mono _ _ _)
      | (with_reducible exact pack_GetText.mono _ _ _ _)
      | (with_reducible exact pack_GetTexts.mono _ _ _ _ _)
      | (with_reducible exact pack_Num.mono _ _)
      | (with_reducible exact pack_Text.mono _ _)
      | (with_reducible exact pack_Texts.mono _ _)
      | (with_reducible exact shelfmarklaw01_awake.mono _)
      | (with_reducible exact shelfmarkref01_Bulk.mono _ _ _)
      | (with_reducible exact LeO.refl _)
      | (with_reducible exact LeO.none _)
      | (with_reducible refine LeO.ite ?_ ?_)
      | (with_reducible refine LeO.bind ?_ (fun _ => ?_))
      | exact ih0 _ _ _ _
      | exact ih1 _ _ _ _
      | exact ih2 _ _ _
      | exact ih3 _ _
      | exact pack_GetNum.mono _ _ _
      | exact pack_GetText.mono _ _ _ _
      | exact pack_GetTexts.mono _ _ _ _ _
      | exact pack_Num.mono _ _
      | exact pack_Text.mono _ _
      | exact pack_Texts.mono _ _
      | exact shelfmarklaw01_awake.mono _
      | exact shelfmarkref01_Bulk.mono _ _ _
      | exact LeO.none _
      | refine LeO.ite ?_ ?_
      | refine LeO.bind ?_ (fun _ => ?_)
    · intro y0 y1 y2 y3
      unfold shelfmarklaw01_PackCuts.l0
      repeat' first
      | (with_reducible exact ih0 _ _ _ _)
      | (with_reducible exact ih1 _ _ _ _)
      | (with_reducible exact ih2 _ _ _)
      | (with_reducible exact ih3 _ _)
      | (with_reducible exact pack_GetNum.mono _ _ _)
      | (with_reducible exact pack_GetText.mono _ _ _ _)
      | (with_reducible exact pack_GetTexts.mono _ _ _ _ _)
      | (with_reducible exact pack_Num.mono _ _)
      | (with_reducible exact pack_Text.mono _ _)
      | (with_reducible exact pack_Texts.mono _ _)
      | (with_reducible exact shelfmarklaw01_awake.mono _)
      | (with_reducible exact shelfmarkref01_Bulk.mono _ _ _)
      | (with_reducible exact LeO.refl _)
      | (with_reducible exact LeO.none _)
      | (with_reducible refine LeO.ite ?_ ?_)
      | (with_reducible refine LeO.bind ?_ (fun _ => ?_))
      | exact ih0 _ _ _ _
      | exact ih1 _ _ _ _
      | exact ih2 _ _ _
      | exact ih3 _ _
      | exact pack_GetNum.mono _ _ _
      | exact pack_GetText.mono _ _ _ _
      | exact pack_GetTexts.mono _ _ _ _ _
      | exact pack_Num.mono _ _
      | exact pack_Text.mono _ _
      | exact pack_Texts.mono _ _
      | exact shelfmarklaw01_awake.mono _
      | exact shelfmarkref01_Bulk.mono _ _ _
      | exact LeO.none _
      | refine LeO.ite ?_ ?_
      | refine LeO.bind ?_ (fun _ => ?_)
    · intro y0 y1 y2
      unfold shelfmarklaw01_PackCuts.l1
      repeat' first
      | (with_reducible exact ih0 _ _ _ _)
      | (with_reducible exact ih1 _ _ _ _)
      | (with_reducible exact ih2 _ _ _)
      | (with_reducible exact ih3 _ _)
      | (with_reducible exact pack_GetNum.mono _ _ _)
      | (with_reducible exact pack_GetText.mono _ _ _ _)
      | (with_reducible exact pack_GetTexts.mono _ _ _ _ _)
      | (with_reducible exact pack_Num.mono _ _)
      | (with_reducible exact pack_Text.mono _ _)
      | (with_reducible exact pack_Texts.mono _ _)
      | (with_reducible exact shelfmarklaw01_awake.mono _)
      | (with_reducible exact shelfmarkref01_Bulk.mono _ _ _)
      | (with_reducible exact LeO.refl _)
      | (with_reducible exact LeO.none _)
      | (with_reducible refine LeO.ite ?_ ?_)
      | (with_reducible refine LeO.bind ?_ (fun _ => ?_))
      | exact ih0 _ _ _ _
      | exact ih1 _ _ _ _
      | exact ih2 _ _ _
      | exact ih3 _ _
      | exact pack_GetNum.mono _ _ _
      | exact pack_GetText.mono _ _ _ _
      | exact pack_GetTexts.mono _ _ _ _ _
      | exact pack_Num.mono _ _
      | exact pack_Text.mono _ _
      | exact pack_Texts.mono _ _
      | exact shelfmarklaw01_awake.mono _
      | exact shelfmarkref01_Bulk.mono _ _ _
      | exact LeO.none _
      | refine LeO.ite ?_ ?_
      | refine LeO.bind ?_ (fun _ => ?_)
    · intro y0 y1
      unfold shelfmarklaw01_PackCuts.l2
      repeat' first
      | (with_reducible exact ih0 _ _ _ _)
      | (with_reducible exact ih1 _ _ _ _)
      | (with_reducible exact ih2 _ _ _)
      | (with_reducible exact ih3 _ _)
      | (with_reducible exact pack_GetNum.mono _ _ _)
      | (with_reducible exact pack_GetText.mono _ _ _ _)
      | (with_reducible exact pack_GetTexts.mono _ _ _ _ _)
      | (with_reducible exact pack_Num.mono _ _)
      | (with_reducible exact pack_Text.mono _ _)
      | (with_reducible exact pack_Texts.mono _ _)
      | (with_reducible exact shelfmarklaw01_awake.mono _)
      | (with_reducible exact shelfmarkref01_Bulk.mono _ _ _)
      | (with_reducible exact LeO.refl _)
      | (with_reducible exact LeO.none _)
      | (with_reducible refine LeO.ite ?_ ?_)
      | (with_reducible refine LeO.bind ?_ (fun _ => ?_))
      | exact ih0 _ _ _ _
      | exact ih1 _ _ _ _
      | exact ih2 _ _ _
      | exact ih3 _ _
      | exact pack_GetNum.mono _ _ _
      | exact pack_GetText.mono _ _ _ _
      | exact pack_GetTexts.mono _ _ _ _ _
      | exact pack_Num.mono _ _
      | exact pack_Text.mono _ _
      | exact pack_Texts.mono _ _
      | exact shelfmarklaw01_awake.mono _
      | exact shelfmarkref01_Bulk.mono _ _ _
      | exact LeO.none _
      | refine LeO.ite ?_ ?_
      | refine LeO.bind ?_ (fun _ => ?_)
theorem shelfmarklaw01_PackCuts.mono : ∀ a0 a1 a2 k, LeO (shelfmarklaw01_PackCuts.f k a0 a1 a2) (shelfmarklaw01_PackCuts.f (k + 1) a0 a1 a2) := by
  intro a0 a1 a2 k
  obtain ⟨ih0, ih1, ih2, ih3⟩ := shelfmarklaw01_PackCuts.mono_l k
  unfold shelfmarklaw01_PackCuts.f
  repeat' first
      | (with_reducible exact ih0 _ _ _ _)
      | (with_reducible exact ih1 _ _ _ _)
      | (with_reducible exact ih2 _ _ _)
      | (with_reducible exact ih3 _ _)
      | (with_reducible exact pack_GetNum.mono _ _ _)
      | (with_reducible exact pack_GetText.mono _ _ _ _)
      | (with_reducible exact pack_GetTexts.mono _ _ _ _ _)
      | (with_reducible exact pack_Num.mono _ _)
      | (with_reducible exact pack_Text.mono _ _)
      | (with_reducible exact pack_Texts.mono _ _)
      | (with_reducible exact shelfmarklaw01_awake.mono _)
      | (with_reducible exact shelfmarkref01_Bulk.mono _ _ _)
      | (with_reducible exact LeO.refl _)
      | (with_reducible exact LeO.none _)
      | (with_reducible refine LeO.ite ?_ ?_)
      | (with_reducible refine LeO.bind ?_ (fun _ => ?_))
      | exact ih0 _ _ _ _
      | exact ih1 _ _ _ _
      | exact ih2 _ _ _
      | exact ih3 _ _
      | exact pack_GetNum.mono _ _ _
      | exact pack_GetText.mono _ _ _ _
      | exact pack_GetTexts.mono _ _ _ _ _
      | exact pack_Num.mono _ _
      | exact pack_Text.mono _ _
      | exact pack_Texts.mono _ _
      | exact shelfmarklaw01_awake.mono _
      | exact shelfmarkref01_Bulk.mono _ _ _
      | exact LeO.none _
      | refine LeO.ite ?_ ?_
      | refine LeO.bind ?_ (fun _ => ?_)
set_option maxHeartbeats 8000000 in
set_option maxRecDepth 100000 in
theorem shelfmarklaw01_PackCuts.calls (k : Nat) (a0 : Int) (a1 : ByteArray) (A2 : Option Addr) (c2 : Nat) (l2 : List ByteArray) (r : Bool) (w : World) (hr2 : Kd.C Kd.string w A2 l2.length l2) (hc2 : l2.length ≤ c2) (h : shelfmarklaw01_PackCuts.f k a0 a1 l2 = some r) :
    Calls Try.prog 8 #[.int .i64 a0, .string a1, .slice A2 l2.length c2] w fun e w' => e = .returned (.bool r) ∧ Below w.heap.size w w' := by
  have HR2 := Aside0.mk hr2
  have HC2 := Aside0.mk hc2
  clear hr2 hc2
  have HB := Aside0.mk (Below.refl w.heap.size w)
  have H : ((shelfmarklaw01_awake.f k).bind fun t399 => (if t399 = true then (if a0 < 0 then (shelfmarklaw01_PackCuts.j0 k a0 a1 l2 true) else (if (a1.size : Int) > 1000 then (shelfmarklaw01_PackCuts.j0 k a0 a1 l2 true) else ((shelfmarkref01_Bulk.f k l2 1000).bind fun t400 => (shelfmarklaw01_PackCuts.j0 k a0 a1 l2 (decide (t400 > 1000)))))) else (some false))) = some r := h
  clear h
  replace H := Option.bind_eq_some_iff.mp H
  obtain ⟨t399, A40, H⟩ := H
  replace H : (if t399 = true then (if a0 < 0 then (shelfmarklaw01_PackCuts.j0 k a0 a1 l2 true) else (if (a1.size : Int) > 1000 then (shelfmarklaw01_PackCuts.j0 k a0 a1 l2 true) else ((shelfmarkref01_Bulk.f k l2 1000).bind fun t400 => (shelfmarklaw01_PackCuts.j0 k a0 a1 l2 (decide (t400 > 1000)))))) else (some false)) = some r := H
  have A4 := Aside0.mk A40
  clear A40
  by_cases c5 : t399 = true
  · subst c5
    have H1 : (if a0 < 0 then (shelfmarklaw01_PackCuts.j0 k a0 a1 l2 true) else (if (a1.size : Int) > 1000 then (shelfmarklaw01_PackCuts.j0 k a0 a1 l2 true) else ((shelfmarkref01_Bulk.f k l2 1000).bind fun t400 => (shelfmarklaw01_PackCuts.j0 k a0 a1 l2 (decide (t400 > 1000)))))) = some r := by rw [if_pos rfl] at H; exact H
    clear H
    have H := H1
    clear H1
    have HC6 := Aside0.mk H
    clear H
    go_enter Try.func8, Try.ntmps8
    go_upto_region 3 with (first | ((with_reducible refine gate_callee (f := 10) rfl ?_); refine goesL_ (some 22) rfl rfl Try.func10 (by kernel_rfl) rfl #[] rfl (by (try simp only [List.map_toArray, List.map_cons, List.map_nil]); first | done | rfl | (simp only [List.length_drop, List.length_take]; rfl)) ?_; (with_reducible refine (shelfmarklaw01_awake.calls k  true _ A4.out).mono ?_); rintro e w7 ⟨rfl, hb⟩; refine ⟨_, rfl, ?_⟩; have n0_ := Aside0.mk (below_step (by repeat (first | (with_reducible first | exact HB.out | apply below_alloc | apply pw_below_drewN | apply below_drew1) | exact HB.out)) hb); clear HB; have HB := n0_; clear n0_; (try clear hb); (try clear hb2); (try clear hk); (try clear hi)))
    (try simp only [Act.put, List.setIfInBounds_toArray, List.set_cons_zero, List.set_cons_succ])
    go_cut [35] (fun v35 wc => ∃ (kq : Nat) (x35_5 : Bool), v35 = .bool x35_5 ∧ Aside0 (shelfmarklaw01_PackCuts.j0 kq a0 a1 l2 x35_5 = some r) ∧ Aside0 (kq ≤ k) ∧ Aside0 (Below w.heap.size w wc))
    case first =>
      have H := HC6.out
      clear HC6
      by_cases c8 : a0 < 0
      · rw [if_pos c8] at H
        have c8b0 : decide (a0 < 0) = true := decide_eq_true c8
        clear c8
        (first | rw [c8b0] | (simp only [i64_w, i32_w]; rw [c8b0]) | skip)
        have H' := Aside0.mk H
        clear H
        go_wp2
        go_meet
        case rel => exact ⟨_, (true), (by first | rfl | (simp; done) | (simp [*]; done)), H', ⟨by first | omega | exact Nat.le_refl _⟩, ⟨by repeat (first | (with_reducible first | exact HB.out | apply below_alloc | apply pw_below_drewN | apply below_drew1) | exact HB.out)⟩⟩
      · rw [if_neg c8] at H
        have c8b0 : decide (a0 < 0) = false := decide_eq_false c8
        clear c8
        (first | rw [c8b0] | (simp only [i64_w, i32_w]; rw [c8b0]) | skip)
        by_cases c9 : (a1.size : Int) > 1000
        · rw [if_pos c9] at H
          have c9b0 : decide (1000 < (a1.size : Int)) = true := decide_eq_true c9
          have c9b1 : decide (1000 < a1.size) = true := decide_eq_true (by omega)
          clear c9
          have H' := Aside0.mk H
          clear H
          go_wp2
          go_meet
          case rel => exact ⟨_, (true), (by first | rfl | (simp; done) | (simp [*]; done)), H', ⟨by first | omega | exact Nat.le_refl _⟩, ⟨by repeat (first | (with_reducible first | exact HB.out | apply below_alloc | apply pw_below_drewN | apply below_drew1) | exact HB.out)⟩⟩
        · rw [if_neg c9] at H
          have c9b0 : decide (1000 < (a1.size : Int)) = false := decide_eq_false c9
          have c9b1 : decide (1000 < a1.size) = false := decide_eq_false (by omega)
          clear c9
          replace H := Option.bind_eq_some_iff.mp H
          obtain ⟨t400, A100, H⟩ := H
          replace H : (shelfmarklaw01_PackCuts.j0 k a0 a1 l2 (decide (t400 > 1000))) = some r := H
          have A10 := Aside0.mk A100
          clear A100
          have H' := Aside0.mk H
          clear H
          go_wp2_with (first | (go_at_call 18; (with_reducible refine (shelfmarkref01_Bulk.calls k _ _ l2 1000 t400 _ ?side1 ?side2 A10.out).mono ?_); (case side1 => repeat (first | exact (Kd.C_below HR2.out HB.out) | (with_reducible refine Kd.C_alloc ?_ _) | (with_reducible refine Kd.C_drewN ?_ _) | (with_reducible refine Kd.C_drew ?_))); (case side2 => exact HC2.out); rintro e w11 ⟨rfl, hb⟩; have n0_ := Aside0.mk (below_step (by repeat (first | (with_reducible first | exact HB.out | apply below_alloc | apply pw_below_drewN | apply below_drew1) | exact HB.out)) hb); clear HB; have HB := n0_; clear n0_; (try clear hb); (try clear hb2); (try clear hk); (try clear hi)))
          go_meet
          case rel => exact ⟨_, (decide (t400 > 1000)), (by first | rfl | (simp; done) | (simp [*]; done)), H', ⟨by first | omega | exact Nat.le_refl _⟩, ⟨by repeat (first | (with_reducible first | exact HB.out | apply below_alloc | apply pw_below_drewN | apply below_drew1) | exact HB.out)⟩⟩
    case rest =>
      clear HC6
      try clear c1
      try clear c2
      try clear p2
      try clear c5
      try clear c8
      try clear c8b0
      try clear c8b0z
      try clear c9
      try clear c9b0
      try clear c9b0z
      try clear c9b1
      try clear c9b1z
      try clear c10
      obtain ⟨kq, x35_5, rfl, HA, HJ5, HB⟩ := hcut
      cases kq with
      | zero => exact absurd HA.out (by simp [shelfmarklaw01_PackCuts.j0])
      | succ kj5 =>
        have H := HA.out
        clear HA
        simp only [shelfmarklaw01_PackCuts.j0] at H
        by_cases c12 : x35_5 = true
        · subst c12
          have H1 : (some true) = some r := by rw [if_pos rfl] at H; exact H
          clear H
          have H := H1
          clear H1
          obtain rfl := Option.some.inj H
          go_wp2
          go_ret
          exact ⟨by first | rfl | (simp [errW_none, errW_some] <;> rfl) | (simp [*, errW_none, errW_some] <;> rfl), by repeat (first | (with_reducible first | exact HB.out | apply below_alloc | apply pw_below_drewN | apply below_drew1) | exact HB.out)⟩
        · replace c12 := Bool.eq_false_iff.mpr c12
          subst c12
          have H1 : ((pack_Num.f kj5 a0).bind fun t401 => ((pack_Text.f kj5 a1).bind fun t404 => ((pack_Texts.f kj5 l2).bind fun t407 => (shelfmarklaw01_PackCuts.l0 kj5 t401 t404 t407 0)))) = some r := by rw [if_neg (show ¬ (false = true) by decide)] at H; exact H
          clear H
          have H := H1
          clear H1
          replace H := Option.bind_eq_some_iff.mp H
          obtain ⟨t401, A130, H⟩ := H
          replace H : ((pack_Text.f kj5 a1).bind fun t404 => ((pack_Texts.f kj5 l2).bind fun t407 => (shelfmarklaw01_PackCuts.l0 kj5 t401 t404 t407 0))) = some r := H
          have A13 := Aside0.mk A130
          clear A130
          replace H := Option.bind_eq_some_iff.mp H
          obtain ⟨t404, A140, H⟩ := H
          replace H : ((pack_Texts.f kj5 l2).bind fun t407 => (shelfmarklaw01_PackCuts.l0 kj5 t401 t404 t407 0)) = some r := H
          have A14 := Aside0.mk A140
          clear A140
          replace H := Option.bind_eq_some_iff.mp H
          obtain ⟨t407, A150, H⟩ := H
          replace H : (shelfmarklaw01_PackCuts.l0 kj5 t401 t404 t407 0) = some r := H
          have A15 := Aside0.mk A150
          clear A150
          have H' := Aside0.mk H
          clear H
          go_wp2_with (first | ((with_reducible refine gate_callee (f := 23) rfl ?_); refine goesL_ (some 37) rfl rfl Try.func23 (by kernel_rfl) rfl #[.int .i64 a0] rfl (by (try simp only [List.map_toArray, List.map_cons, List.map_nil]); first | done | rfl | (simp only [List.length_drop, List.length_take]; rfl)) ?_; (with_reducible refine (pack_Num.calls kj5 a0 t401 _ A13.out).mono ?_); rintro e w16 ⟨v402, rfl, ho0, hb⟩; refine ⟨_, rfl, ?_⟩; have n0_ := Aside0.mk (Kd.R_lower ho0 (below_size (by repeat (first | (with_reducible first | exact HB.out | apply below_alloc | apply pw_below_drewN | apply below_drew1) | exact HB.out)))); have n1_ := Aside0.mk (below_step (by repeat (first | (with_reducible first | exact HB.out | apply below_alloc | apply pw_below_drewN | apply below_drew1) | exact HB.out)) hb); clear HB; have HO403 := n0_; have HB := n1_; clear n0_ n1_; (try clear hb); (try clear hb2); (try clear hk); (try clear hi); (try clear ho0)) | ((with_reducible refine gate_callee (f := 24) rfl ?_); refine goesL_ (some 39) rfl rfl Try.func24 (by kernel_rfl) rfl #[.string a1] rfl (by (try simp only [List.map_toArray, List.map_cons, List.map_nil]); first | done | rfl | (simp only [List.length_drop, List.length_take]; rfl)) ?_; (with_reducible refine (pack_Text.calls kj5 a1 t404 _ A14.out).mono ?_); rintro e w17 ⟨v405, rfl, ho0, hb⟩; refine ⟨_, rfl, ?_⟩; have n0_ := Aside0.mk (Kd.R_elder' (by (with_reducible repeat (first | apply Kd.R_alloc | apply Kd.R_drewN | apply Kd.R_drew)); exact HO403.out) (Kd.R_base ho0) hb); have n1_ := Aside0.mk (Kd.R_lower (Kd.R_new' ho0 (Kd.R_lt (by (with_reducible repeat (first | apply Kd.R_alloc | apply Kd.R_drewN | apply Kd.R_drew)); exact HO403.out))) (below_size (by repeat (first | (with_reducible first | exact HB.out | apply below_alloc | apply pw_below_drewN | apply below_drew1) | exact HB.out)))); have n2_ := Aside0.mk (below_step (by repeat (first | (with_reducible first | exact HB.out | apply below_alloc | apply pw_below_drewN | apply below_drew1) | exact HB.out)) hb); clear HO403; clear HB; have HO403 := n0_; have HO406 := n1_; have HB := n2_; clear n0_ n1_ n2_; (try clear hb); (try clear hb2); (try clear hk); (try clear hi); (try clear ho0)) | ((with_reducible refine gate_callee (f := 25) rfl ?_); refine goesL_ (some 41) rfl rfl Try.func25 (by kernel_rfl) rfl #[.slice A2 l2.length c2] rfl (by (try simp only [List.map_toArray, List.map_cons, List.map_nil]); first | done | rfl | (simp only [List.length_drop, List.length_take]; rfl)) ?_; (with_reducible refine (pack_Texts.calls kj5 _ _ l2 t407 _ ?side1 ?side2 A15.out).mono ?_); (case side1 => repeat (first | exact (Kd.C_below HR2.out HB.out) | (with_reducible refine Kd.C_alloc ?_ _) | (with_reducible refine Kd.C_drewN ?_ _) | (with_reducible refine Kd.C_drew ?_))); (case side2 => exact HC2.out); rintro e w18 ⟨v408, rfl, ho0, hb⟩; refine ⟨_, rfl, ?_⟩; have n0_ := Aside0.mk (Kd.R_elder' (by (with_reducible repeat (first | apply Kd.R_alloc | apply Kd.R_drewN | apply Kd.R_drew)); exact HO403.out) (Kd.R_base ho0) hb); have n1_ := Aside0.mk (Kd.R_elder' (by (with_reducible repeat (first | apply Kd.R_alloc | apply Kd.R_drewN | apply Kd.R_drew)); exact HO406.out) (Kd.R_base ho0) hb); have n2_ := Aside0.mk (Kd.R_lower (Kd.R_new' (Kd.R_new' ho0 (Kd.R_lt (by (with_reducible repeat (first | apply Kd.R_alloc | apply Kd.R_drewN | apply Kd.R_drew)); exact HO403.out))) (Kd.R_lt (by (with_reducible repeat (first | apply Kd.R_alloc | apply Kd.R_drewN | apply Kd.R_drew)); exact HO406.out))) (below_size (by repeat (first | (with_reducible first | exact HB.out | apply below_alloc | apply pw_below_drewN | apply below_drew1) | exact HB.out)))); have n3_ := Aside0.mk (below_step (by repeat (first | (with_reducible first | exact HB.out | apply below_alloc | apply pw_below_drewN | apply below_drew1) | exact HB.out)) hb); clear HO403; clear HO406; clear HB; have HO403 := n0_; have HO406 := n1_; have HO409 := n2_; have HB := n3_; clear n0_ n1_ n2_ n3_; (try clear hb); (try clear hb2); (try clear hk); (try clear hi); (try clear ho0)))
          go_loopg [10] kj5 (fun kq v10 w' => ∃ (x10_2 : Int), v10 = .int .i64 x10_2 ∧ Aside0 (shelfmarklaw01_PackCuts.l0 kq t401 t404 t407 x10_2 = some r) ∧ Aside0 (kq ≤ kj5) ∧ Aside0 (Kd.R (Kd.int .u8) 5 w' w.heap.size (fun k_ => some k_ ≠ (v405 : Value).ownBlock ∧ some k_ ≠ (v408 : Value).ownBlock) v402 t401) ∧ Aside0 (Kd.R (Kd.int .u8) 5 w' w.heap.size (fun k_ => some k_ ≠ (v402 : Value).ownBlock ∧ some k_ ≠ (v408 : Value).ownBlock) v405 t404) ∧ Aside0 (Kd.R (Kd.int .u8) 5 w' w.heap.size (fun k_ => some k_ ≠ (v402 : Value).ownBlock ∧ some k_ ≠ (v405 : Value).ownBlock) v408 t407) ∧ Aside0 (Below w.heap.size w w'))
          case atStart => exact ⟨(0), (by first | rfl | (simp; done) | (simp [*]; done)), H', ⟨Nat.le_refl _⟩, ⟨by (with_reducible repeat (first | apply Kd.R_alloc | apply Kd.R_drewN | apply Kd.R_drew)); exact Kd.R_mono HO403.out (fun _ hk => ⟨hk.1.2, hk.2⟩)⟩, ⟨by (with_reducible repeat (first | apply Kd.R_alloc | apply Kd.R_drewN | apply Kd.R_drew)); exact Kd.R_mono HO406.out (fun _ hk => ⟨hk.1.2, hk.2⟩)⟩, ⟨by (with_reducible repeat (first | apply Kd.R_alloc | apply Kd.R_drewN | apply Kd.R_drew)); exact Kd.R_mono HO409.out (fun _ hk => ⟨hk.1.2, hk.2⟩)⟩, ⟨by repeat (first | (with_reducible first | exact HB.out | apply below_alloc | apply pw_below_drewN | apply below_drew1) | exact HB.out)⟩⟩
          case round =>
            clear H'
            try clear c1
            try clear c2
            try clear p2
            try clear c5
            try clear c8
            try clear c8b0
            try clear c8b0z
            try clear c9
            try clear c9b0
            try clear c9b0z
            try clear c9b1
            try clear c9b1z
            try clear c10
            try clear c12
            try clear p2
            obtain ⟨x10_2, rfl, HA, HK2, HO_7, HO_8, HO_9, HB⟩ := hrel
            cases gk with
            | zero => exact absurd HA.out (by simp [shelfmarklaw01_PackCuts.l0])
            | succ k2 =>
              have H := HA.out
              clear HA
              simp only [shelfmarklaw01_PackCuts.l0] at H
              by_cases c19 : x10_2 < (t401.length : Int)
              · rw [if_pos c19] at H
                have c19b0 : decide (x10_2 < (t401.length : Int)) = true := decide_eq_true c19
                clear c19
                by_cases c20 : 0 ≤ x10_2
                · rw [if_pos c20] at H
                  have c20b0 := eq_true c20
                  have c20b1 : decide (0 ≤ x10_2) = true := decide_eq_true c20
                  clear c20
                  by_cases c21 : x10_2 ≤ (t401.length : Int)
                  · rw [if_pos c21] at H
                    have c21b0 := eq_true c21
                    have c21b1 : decide (x10_2 ≤ (t401.length : Int)) = true := decide_eq_true c21
                    clear c21
                    obtain ⟨y410, hy410⟩ : ∃ y_ : List Int, y_ = (t401.take (x10_2 : Int).toNat) := ⟨_, rfl⟩
                    replace H : ((pack_GetNum.f k2 y410 0).bind fun bt414 => (if bt414.2.2 = 2 then (shelfmarklaw01_PackCuts.l0 k2 t401 t404 t407 (wrap64 (x10_2 + 1))) else (some false))) = some r := by first | (rw [hy410]; with_reducible exact H) | (have H2_ := (Option.bind_some _ _).symm.trans H; rw [hy410]; with_reducible exact H2_) | (have H2_ := (Option.bind_some _ _).symm.trans H; with_reducible exact H2_) | with_reducible exact H | (rw [hy410]; exact H) | exact H
                    have Ny410 := Aside0.mk hy410
                    clear hy410
                    replace H := Option.bind_eq_some_iff.mp H
                    obtain ⟨⟨t414, t415, t416⟩, A220, H⟩ := H
                    replace H : (if t416 = 2 then (shelfmarklaw01_PackCuts.l0 k2 t401 t404 t407 (wrap64 (x10_2 + 1))) else (some false)) = some r := H
                    have A22 := Aside0.mk A220
                    clear A220
                    by_cases c23 : t416 = 2
                    · rw [if_pos c23] at H
                      have c23b0 : (t416 == 2) = true := beq_iff_eq.mpr c23
                      have c23b1 : (t416 != 2) = false := bne_eq_false_iff_eq.mpr c23
                      clear c23
                      have H' := Aside0.mk H
                      clear H
                      obtain ⟨Ao24, co24, eo24⟩ := Kd.R_slice HO_7.out
                      subst eo24
                      have q25 : (x10_2 : Int) ≤ ((t401.length : Int) : Int) := of_decide_eq_true (by first | (with_reducible assumption) | assumption)
                      obtain ⟨i025, hi025, _, hsz25, _⟩ := info_parts info5
                      have hroom25 : t401.length ≤ co24 := (Kd.R_reads' HO_7.out).2.1
                      have hC25 : Kd.C (Kd.int .u8) _ Ao24 t401.length t401 := (Kd.R_reads' HO_7.out).2.2
                      have hcut25 := cut_to (P := Try.prog) 22 5 .i64 Try.underlying22 hi025 Ao24 t401.length co24 x10_2 (of_decide_eq_true (by first | (with_reducible assumption) | assumption)) q25 hroom25
                      have hr25 := Kd.C_take (m := (x10_2 : Int).toNat) hC25 (by omega)
                      have hy25 : y410.length = (x10_2 : Int).toNat := (by rw [Ny410.out, List.length_take]; omega)
                      rw [← Ny410.out] at hr25
                      rw [← hy25] at hcut25
                      have HR413 := Aside0.mk hr25
                      have HC413 := Aside0.mk (show y410.length ≤ co24 from by omega)
                      clear hr25 hC25 hroom25 hi025 hsz25
                      have KY25 := Aside0.mk hy25
                      clear hy25
                      have KL25 := Aside0.mk (show (x10_2 : Int).toNat ≤ t401.length from by omega)
                      replace q25 := eq_true q25
                      go_wp2_with (first | ((with_reducible refine gate_callee (f := 11) rfl ?_); refine goesL_ (some 52) rfl rfl Try.func11 (by kernel_rfl) rfl #[.slice Ao24 y410.length co24, .int .i64 0] rfl (by (try simp only [List.map_toArray, List.map_cons, List.map_nil]); first | done | rfl | (simp only [List.length_drop, List.length_take]; rfl)) ?_; (with_reducible refine (pack_GetNum.calls k2 _ _ y410 0 t414 t415 t416 _ ?side1 ?side2 A22.out).mono ?_); (case side1 => repeat (first | exact (by repeat (first | (with_reducible exact HR413.out) | (with_reducible refine Kd.C_alloc ?_ _) | (with_reducible refine Kd.C_drewN ?_ _) | (with_reducible refine Kd.C_drew ?_) | exact HR413.out)) | (with_reducible refine Kd.C_alloc ?_ _) | (with_reducible refine Kd.C_drewN ?_ _) | (with_reducible refine Kd.C_drew ?_))); (case side2 => exact HC413.out); rintro e w26 ⟨rfl, hb⟩; refine ⟨_, rfl, ?_⟩; have n0_ := Aside0.mk (Kd.R_below (by (with_reducible repeat (first | apply Kd.R_alloc | apply Kd.R_drewN | apply Kd.R_drew)); exact HO_7.out) hb); have n1_ := Aside0.mk (Kd.R_below (by (with_reducible repeat (first | apply Kd.R_alloc | apply Kd.R_drewN | apply Kd.R_drew)); exact HO_8.out) hb); have n2_ := Aside0.mk (Kd.R_below (by (with_reducible repeat (first | apply Kd.R_alloc | apply Kd.R_drewN | apply Kd.R_drew)); exact HO_9.out) hb); have n3_ := Aside0.mk (Kd.C_below (by repeat (first | (with_reducible exact HR413.out) | (with_reducible refine Kd.C_alloc ?_ _) | (with_reducible refine Kd.C_drewN ?_ _) | (with_reducible refine Kd.C_drew ?_) | exact HR413.out)) hb); have n4_ := Aside0.mk (below_step (by repeat (first | (with_reducible first | exact HB.out | apply below_alloc | apply pw_below_drewN | apply below_drew1) | exact HB.out)) hb); clear HO_7; clear HO_8; clear HO_9; clear HR413; clear HB; have HO_7 := n0_; have HO_8 := n1_; have HO_9 := n2_; have HR413 := n3_; have HB := n4_; clear n0_ n1_ n2_ n3_ n4_; (try clear hb); (try clear hb2); (try clear hk); (try clear hi)))
                      go_roundg k2
                      case measure => have := HJ5.out; have := HK2.out; omega
                      case rel => exact ⟨(wrap64 (x10_2 + 1)), (by first | rfl | (simp; done) | (simp [*]; done)), H', ⟨by have := HJ5.out; have := HK2.out; omega⟩, ⟨by (with_reducible repeat (first | apply Kd.R_alloc | apply Kd.R_drewN | apply Kd.R_drew)); exact HO_7.out⟩, ⟨by (with_reducible repeat (first | apply Kd.R_alloc | apply Kd.R_drewN | apply Kd.R_drew)); exact HO_8.out⟩, ⟨by (with_reducible repeat (first | apply Kd.R_alloc | apply Kd.R_drewN | apply Kd.R_drew)); exact HO_9.out⟩, ⟨by repeat (first | (with_reducible first | exact HB.out | apply below_alloc | apply pw_below_drewN | apply below_drew1) | exact HB.out)⟩⟩
                    · rw [if_neg c23] at H
                      have c23b0 : (t416 == 2) = false := beq_eq_false_iff_ne.mpr c23
                      have c23b1 : (t416 != 2) = true := bne_iff_ne.mpr c23
                      obtain rfl := Option.some.inj H
                      obtain ⟨Ao27, co27, eo27⟩ := Kd.R_slice HO_7.out
                      subst eo27
                      have q28 : (x10_2 : Int) ≤ ((t401.length : Int) : Int) := of_decide_eq_true (by first | (with_reducible assumption) | assumption)
                      obtain ⟨i028, hi028, _, hsz28, _⟩ := info_parts info5
                      have hroom28 : t401.length ≤ co27 := (Kd.R_reads' HO_7.out).2.1
                      have hC28 : Kd.C (Kd.int .u8) _ Ao27 t401.length t401 := (Kd.R_reads' HO_7.out).2.2
                      have hcut28 := cut_to (P := Try.prog) 22 5 .i64 Try.underlying22 hi028 Ao27 t401.length co27 x10_2 (of_decide_eq_true (by first | (with_reducible assumption) | assumption)) q28 hroom28
                      have hr28 := Kd.C_take (m := (x10_2 : Int).toNat) hC28 (by omega)
                      have hy28 : y410.length = (x10_2 : Int).toNat := (by rw [Ny410.out, List.length_take]; omega)
                      rw [← Ny410.out] at hr28
                      rw [← hy28] at hcut28
                      have HR413 := Aside0.mk hr28
                      have HC413 := Aside0.mk (show y410.length ≤ co27 from by omega)
                      clear hr28 hC28 hroom28 hi028 hsz28
                      have KY28 := Aside0.mk hy28
                      clear hy28
                      have KL28 := Aside0.mk (show (x10_2 : Int).toNat ≤ t401.length from by omega)
                      replace q28 := eq_true q28
                      go_wp2_with (first | ((with_reducible refine gate_callee (f := 11) rfl ?_); refine goesL_ (some 52) rfl rfl Try.func11 (by kernel_rfl) rfl #[.slice Ao27 y410.length co27, .int .i64 0] rfl (by (try simp only [List.map_toArray, List.map_cons, List.map_nil]); first | done | rfl | (simp only [List.length_drop, List.length_take]; rfl)) ?_; (with_reducible refine (pack_GetNum.calls k2 _ _ y410 0 t414 t415 t416 _ ?side1 ?side2 A22.out).mono ?_); (case side1 => repeat (first | exact (by repeat (first | (with_reducible exact HR413.out) | (with_reducible refine Kd.C_alloc ?_ _) | (with_reducible refine Kd.C_drewN ?_ _) | (with_reducible refine Kd.C_drew ?_) | exact HR413.out)) | (with_reducible refine Kd.C_alloc ?_ _) | (with_reducible refine Kd.C_drewN ?_ _) | (with_reducible refine Kd.C_drew ?_))); (case side2 => exact HC413.out); rintro e w29 ⟨rfl, hb⟩; refine ⟨_, rfl, ?_⟩; have n0_ := Aside0.mk (Kd.R_below (by (with_reducible repeat (first | apply Kd.R_alloc | apply Kd.R_drewN | apply Kd.R_drew)); exact HO_7.out) hb); have n1_ := Aside0.mk (Kd.R_below (by (with_reducible repeat (first | apply Kd.R_alloc | apply Kd.R_drewN | apply Kd.R_drew)); exact HO_8.out) hb); have n2_ := Aside0.mk (Kd.R_below (by (with_reducible repeat (first | apply Kd.R_alloc | apply Kd.R_drewN | apply Kd.R_drew)); exact HO_9.out) hb); have n3_ := Aside0.mk (Kd.C_below (by repeat (first | (with_reducible exact HR413.out) | (with_reducible refine Kd.C_alloc ?_ _) | (with_reducible refine Kd.C_drewN ?_ _) | (with_reducible refine Kd.C_drew ?_) | exact HR413.out)) hb); have n4_ := Aside0.mk (below_step (by repeat (first | (with_reducible first | exact HB.out | apply below_alloc | apply pw_below_drewN | apply below_drew1) | exact HB.out)) hb); clear HO_7; clear HO_8; clear HO_9; clear HR413; clear HB; have HO_7 := n0_; have HO_8 := n1_; have HO_9 := n2_; have HR413 := n3_; have HB := n4_; clear n0_ n1_ n2_ n3_ n4_; (try clear hb); (try clear hb2); (try clear hk); (try clear hi)))
                      go_ret
                      exact ⟨by first | rfl | (simp [errW_none, errW_some] <;> rfl) | (simp [*, errW_none, errW_some] <;> rfl), by repeat (first | (with_reducible first | exact HB.out | apply below_alloc | apply pw_below_drewN | apply below_drew1) | exact HB.out)⟩
                  · rw [if_neg c21] at H
                    exact absurd H (by simp)
                · rw [if_neg c20] at H
                  exact absurd H (by simp)
              · rw [if_neg c19] at H
                have c19b0 : decide (x10_2 < (t401.length : Int)) = false := decide_eq_false c19
                clear c19
                have H' := Aside0.mk H
                clear H
                obtain ⟨Ao30, co30, eo30⟩ := Kd.R_slice HO_7.out
                subst eo30
                go_wp2
                go_loopg [14] k2 (fun kq v14 w' => ∃ (x14_3 : Int), v14 = .int .i64 x14_3 ∧ Aside0 (shelfmarklaw01_PackCuts.l1 kq t404 t407 x14_3 = some r) ∧ Aside0 (kq ≤ k2) ∧ Aside0 (Kd.R (Kd.int .u8) 5 w' w.heap.size (fun k_ => some k_ ≠ (v408 : Value).ownBlock) v405 t404) ∧ Aside0 (Kd.R (Kd.int .u8) 5 w' w.heap.size (fun k_ => some k_ ≠ (v405 : Value).ownBlock) v408 t407) ∧ Aside0 (Below w.heap.size w w'))
                case atStart => exact ⟨(0), (by first | rfl | (simp; done) | (simp [*]; done)), H', ⟨Nat.le_refl _⟩, ⟨by (with_reducible repeat (first | apply Kd.R_alloc | apply Kd.R_drewN | apply Kd.R_drew)); exact Kd.R_mono HO_8.out (fun _ hk => hk.2)⟩, ⟨by (with_reducible repeat (first | apply Kd.R_alloc | apply Kd.R_drewN | apply Kd.R_drew)); exact Kd.R_mono HO_9.out (fun _ hk => hk.2)⟩, ⟨by repeat (first | (with_reducible first | exact HB.out | apply below_alloc | apply pw_below_drewN | apply below_drew1) | exact HB.out)⟩⟩
                case round =>
                  clear H'
                  try clear c1
                  try clear c2
                  try clear p2
                  try clear q2
                  try clear c5
                  try clear p6
                  try clear c8
                  try clear c8b0
                  try clear c8b0z
                  try clear c9
                  try clear c9b0
                  try clear c9b0z
                  try clear c9b1
                  try clear c9b1z
                  try clear c10
                  try clear c11
                  try clear c12
                  try clear c19
                  try clear c19b0
                  try clear c19b0z
                  try clear c20
                  try clear c20b0
                  try clear c20b0z
                  try clear c20b1
                  try clear c20b1z
                  try clear c21
                  try clear c21b0
                  try clear c21b0z
                  try clear c21b1
                  try clear c21b1z
                  try clear c23
                  try clear c23b0
                  try clear c23b0z
                  try clear c23b1
                  try clear c23b1z
                  try clear c24
                  try clear c25
                  try clear q25
                  try clear q28
                  try clear p2
                  try clear q25
                  try clear q28
                  obtain ⟨x14_3, rfl, HA, HK3, HO_8, HO_9, HB⟩ := hrel
                  cases gk with
                  | zero => exact absurd HA.out (by simp [shelfmarklaw01_PackCuts.l1])
                  | succ k3 =>
                    have H := HA.out
                    clear HA
                    simp only [shelfmarklaw01_PackCuts.l1] at H
                    by_cases c31 : x14_3 < (t404.length : Int)
                    · rw [if_pos c31] at H
                      have c31b0 : decide (x14_3 < (t404.length : Int)) = true := decide_eq_true c31
                      clear c31
                      by_cases c32 : 0 ≤ x14_3
                      · rw [if_pos c32] at H
                        have c32b0 := eq_true c32
                        have c32b1 : decide (0 ≤ x14_3) = true := decide_eq_true c32
                        clear c32
                        by_cases c33 : x14_3 ≤ (t404.length : Int)
                        · rw [if_pos c33] at H
                          have c33b0 := eq_true c33
                          have c33b1 : decide (x14_3 ≤ (t404.length : Int)) = true := decide_eq_true c33
                          clear c33
                          obtain ⟨y417, hy417⟩ : ∃ y_ : List Int, y_ = (t404.take (x14_3 : Int).toNat) := ⟨_, rfl⟩
                          replace H : ((pack_GetText.f k3 y417 0 1000).bind fun bt421 => (if bt421.2.2 = 2 then (shelfmarklaw01_PackCuts.l1 k3 t404 t407 (wrap64 (x14_3 + 1))) else (some false))) = some r := by first | (rw [hy417]; with_reducible exact H) | (have H2_ := (Option.bind_some _ _).symm.trans H; rw [hy417]; with_reducible exact H2_) | (have H2_ := (Option.bind_some _ _).symm.trans H; with_reducible exact H2_) | with_reducible exact H | (rw [hy417]; exact H) | exact H
                          have Ny417 := Aside0.mk hy417
                          clear hy417
                          replace H := Option.bind_eq_some_iff.mp H
                          obtain ⟨⟨t421, t422, t423⟩, A340, H⟩ := H
                          replace H : (if t423 = 2 then (shelfmarklaw01_PackCuts.l1 k3 t404 t407 (wrap64 (x14_3 + 1))) else (some false)) = some r := H
                          have A34 := Aside0.mk A340
                          clear A340
                          by_cases c35 : t423 = 2
                          · rw [if_pos c35] at H
                            have c35b0 : (t423 == 2) = true := beq_iff_eq.mpr c35
                            have c35b1 : (t423 != 2) = false := bne_eq_false_iff_eq.mpr c35
                            clear c35
                            have H' := Aside0.mk H
                            clear H
                            obtain ⟨Ao36, co36, eo36⟩ := Kd.R_slice HO_8.out
                            subst eo36
                            have q37 : (x14_3 : Int) ≤ ((t404.length : Int) : Int) := of_decide_eq_true (by first | (with_reducible assumption) | assumption)
                            obtain ⟨i037, hi037, _, hsz37, _⟩ := info_parts info5
                            have hroom37 : t404.length ≤ co36 := (Kd.R_reads' HO_8.out).2.1
                            have hC37 : Kd.C (Kd.int .u8) _ Ao36 t404.length t404 := (Kd.R_reads' HO_8.out).2.2
                            have hcut37 := cut_to (P := Try.prog) 22 5 .i64 Try.underlying22 hi037 Ao36 t404.length co36 x14_3 (of_decide_eq_true (by first | (with_reducible assumption) | assumption)) q37 hroom37
                            have hr37 := Kd.C_take (m := (x14_3 : Int).toNat) hC37 (by omega)
                            have hy37 : y417.length = (x14_3 : Int).toNat := (by rw [Ny417.out, List.length_take]; omega)
                            rw [← Ny417.out] at hr37
                            rw [← hy37] at hcut37
                            have HR420 := Aside0.mk hr37
                            have HC420 := Aside0.mk (show y417.length ≤ co36 from by omega)
                            clear hr37 hC37 hroom37 hi037 hsz37
                            have KY37 := Aside0.mk hy37
                            clear hy37
                            have KL37 := Aside0.mk (show (x14_3 : Int).toNat ≤ t404.length from by omega)
                            replace q37 := eq_true q37
                            go_wp2_with (first | ((with_reducible refine gate_callee (f := 13) rfl ?_); refine goesL_ (some 68) rfl rfl Try.func13 (by kernel_rfl) rfl #[.slice Ao36 y417.length co36, .int .i64 0, .int .i64 1000] rfl (by (try simp only [List.map_toArray, List.map_cons, List.map_nil]); first | done | rfl | (simp only [List.length_drop, List.length_take]; rfl)) ?_; (with_reducible refine (pack_GetText.calls k3 _ _ y417 0 1000 t421 t422 t423 _ ?side1 ?side2 A34.out).mono ?_); (case side1 => repeat (first | exact (by repeat (first | (with_reducible exact HR420.out) | (with_reducible refine Kd.C_alloc ?_ _) | (with_reducible refine Kd.C_drewN ?_ _) | (with_reducible refine Kd.C_drew ?_) | exact HR420.out)) | (with_reducible refine Kd.C_alloc ?_ _) | (with_reducible refine Kd.C_drewN ?_ _) | (with_reducible refine Kd.C_drew ?_))); (case side2 => exact HC420.out); rintro e w38 ⟨rfl, hb⟩; refine ⟨_, rfl, ?_⟩; have n0_ := Aside0.mk (Kd.R_below (by (with_reducible repeat (first | apply Kd.R_alloc | apply Kd.R_drewN | apply Kd.R_drew)); exact HO_8.out) hb); have n1_ := Aside0.mk (Kd.R_below (by (with_reducible repeat (first | apply Kd.R_alloc | apply Kd.R_drewN | apply Kd.R_drew)); exact HO_9.out) hb); have n2_ := Aside0.mk (Kd.C_below (by repeat (first | (with_reducible exact HR420.out) | (with_reducible refine Kd.C_alloc ?_ _) | (with_reducible refine Kd.C_drewN ?_ _) | (with_reducible refine Kd.C_drew ?_) | exact HR420.out)) hb); have n3_ := Aside0.mk (below_step (by repeat (first | (with_reducible first | exact HB.out | apply below_alloc | apply pw_below_drewN | apply below_drew1) | exact HB.out)) hb); clear HO_8; clear HO_9; clear HR420; clear HB; have HO_8 := n0_; have HO_9 := n1_; have HR420 := n2_; have HB := n3_; clear n0_ n1_ n2_ n3_; (try clear hb); (try clear hb2); (try clear hk); (try clear hi)))
                            go_roundg k3
                            case measure => have := HJ5.out; have := HK2.out; have := HK3.out; omega
                            case rel => exact ⟨(wrap64 (x14_3 + 1)), (by first | rfl | (simp; done) | (simp [*]; done)), H', ⟨by have := HJ5.out; have := HK2.out; have := HK3.out; omega⟩, ⟨by (with_reducible repeat (first | apply Kd.R_alloc | apply Kd.R_drewN | apply Kd.R_drew)); exact HO_8.out⟩, ⟨by (with_reducible repeat (first | apply Kd.R_alloc | apply Kd.R_drewN | apply Kd.R_drew)); exact HO_9.out⟩, ⟨by repeat (first | (with_reducible first | exact HB.out | apply below_alloc | apply pw_below_drewN | apply below_drew1) | exact HB.out)⟩⟩
                          · rw [if_neg c35] at H
                            have c35b0 : (t423 == 2) = false := beq_eq_false_iff_ne.mpr c35
                            have c35b1 : (t423 != 2) = true := bne_iff_ne.mpr c35
                            obtain rfl := Option.some.inj H
                            obtain ⟨Ao39, co39, eo39⟩ := Kd.R_slice HO_8.out
                            subst eo39
                            have q40 : (x14_3 : Int) ≤ ((t404.length : Int) : Int) := of_decide_eq_true (by first | (with_reducible assumption) | assumption)
                            obtain ⟨i040, hi040, _, hsz40, _⟩ := info_parts info5
                            have hroom40 : t404.length ≤ co39 := (Kd.R_reads' HO_8.out).2.1
                            have hC40 : Kd.C (Kd.int .u8) _ Ao39 t404.length t404 := (Kd.R_reads' HO_8.out).2.2
                            have hcut40 := cut_to (P := Try.prog) 22 5 .i64 Try.underlying22 hi040 Ao39 t404.length co39 x14_3 (of_decide_eq_true (by first | (with_reducible assumption) | assumption)) q40 hroom40
                            have hr40 := Kd.C_take (m := (x14_3 : Int).toNat) hC40 (by omega)
                            have hy40 : y417.length = (x14_3 : Int).toNat := (by rw [Ny417.out, List.length_take]; omega)
                            rw [← Ny417.out] at hr40
                            rw [← hy40] at hcut40
                            have HR420 := Aside0.mk hr40
                            have HC420 := Aside0.mk (show y417.length ≤ co39 from by omega)
                            clear hr40 hC40 hroom40 hi040 hsz40
                            have KY40 := Aside0.mk hy40
                            clear hy40
                            have KL40 := Aside0.mk (show (x14_3 : Int).toNat ≤ t404.length from by omega)
                            replace q40 := eq_true q40
                            go_wp2_with (first | ((with_reducible refine gate_callee (f := 13) rfl ?_); refine goesL_ (some 68) rfl rfl Try.func13 (by kernel_rfl) rfl #[.slice Ao39 y417.length co39, .int .i64 0, .int .i64 1000] rfl (by (try simp only [List.map_toArray, List.map_cons, List.map_nil]); first | done | rfl | (simp only [List.length_drop, List.length_take]; rfl)) ?_; (with_reducible refine (pack_GetText.calls k3 _ _ y417 0 1000 t421 t422 t423 _ ?side1 ?side2 A34.out).mono ?_); (case side1 => repeat (first | exact (by repeat (first | (with_reducible exact HR420.out) | (with_reducible refine Kd.C_alloc ?_ _) | (with_reducible refine Kd.C_drewN ?_ _) | (with_reducible refine Kd.C_drew ?_) | exact HR420.out)) | (with_reducible refine Kd.C_alloc ?_ _) | (with_reducible refine Kd.C_drewN ?_ _) | (with_reducible refine Kd.C_drew ?_))); (case side2 => exact HC420.out); rintro e w41 ⟨rfl, hb⟩; refine ⟨_, rfl, ?_⟩; have n0_ := Aside0.mk (Kd.R_below (by (with_reducible repeat (first | apply Kd.R_alloc | apply Kd.R_drewN | apply Kd.R_drew)); exact HO_8.out) hb); have n1_ := Aside0.mk (Kd.R_below (by (with_reducible repeat (first | apply Kd.R_alloc | apply Kd.R_drewN | apply Kd.R_drew)); exact HO_9.out) hb); have n2_ := Aside0.mk (Kd.C_below (by repeat (first | (with_reducible exact HR420.out) | (with_reducible refine Kd.C_alloc ?_ _) | (with_reducible refine Kd.C_drewN ?_ _) | (with_reducible refine Kd.C_drew ?_) | exact HR420.out)) hb); have n3_ := Aside0.mk (below_step (by repeat (first | (with_reducible first | exact HB.out | apply below_alloc | apply pw_below_drewN | apply below_drew1) | exact HB.out)) hb); clear HO_8; clear HO_9; clear HR420; clear HB; have HO_8 := n0_; have HO_9 := n1_; have HR420 := n2_; have HB := n3_; clear n0_ n1_ n2_ n3_; (try clear hb); (try clear hb2); (try clear hk); (try clear hi)))
                            go_ret
                            exact ⟨by first | rfl | (simp [errW_none, errW_some] <;> rfl) | (simp [*, errW_none, errW_some] <;> rfl), by repeat (first | (with_reducible first | exact HB.out | apply below_alloc | apply pw_below_drewN | apply below_drew1) | exact HB.out)⟩
                        · rw [if_neg c33] at H
                          exact absurd H (by simp)
                      · rw [if_neg c32] at H
                        exact absurd H (by simp)
                    · rw [if_neg c31] at H
                      have c31b0 : decide (x14_3 < (t404.length : Int)) = false := decide_eq_false c31
                      clear c31
                      have H' := Aside0.mk H
                      clear H
                      obtain ⟨Ao42, co42, eo42⟩ := Kd.R_slice HO_8.out
                      subst eo42
                      go_wp2
                      go_loopg [18] k3 (fun kq v18 w' => ∃ (x18_4 : Int), v18 = .int .i64 x18_4 ∧ Aside0 (shelfmarklaw01_PackCuts.l2 kq t407 x18_4 = some r) ∧ Aside0 (kq ≤ k3) ∧ Aside0 (Kd.R (Kd.int .u8) 5 w' w.heap.size (fun _ => True) v408 t407) ∧ Aside0 (Below w.heap.size w w'))
                      case atStart => exact ⟨(0), (by first | rfl | (simp; done) | (simp [*]; done)), H', ⟨Nat.le_refl _⟩, ⟨by (with_reducible repeat (first | apply Kd.R_alloc | apply Kd.R_drewN | apply Kd.R_drew)); exact Kd.R_mono HO_9.out (fun _ hk => trivial)⟩, ⟨by repeat (first | (with_reducible first | exact HB.out | apply below_alloc | apply pw_below_drewN | apply below_drew1) | exact HB.out)⟩⟩
                      case round =>
                        clear H'
                        try clear c1
                        try clear c2
                        try clear p2
                        try clear q2
                        try clear c3
                        try clear q3
                        try clear q4
                        try clear c5
                        try clear p6
                        try clear c8
                        try clear c8b0
                        try clear c8b0z
                        try clear c9
                        try clear c9b0
                        try clear c9b0z
                        try clear c9b1
                        try clear c9b1z
                        try clear c10
                        try clear c11
                        try clear c12
                        try clear c13
                        try clear c19
                        try clear c19b0
                        try clear c19b0z
                        try clear c20
                        try clear c20b0
                        try clear c20b0z
                        try clear c20b1
                        try clear c20b1z
                        try clear c21
                        try clear c21b0
                        try clear c21b0z
                        try clear c21b1
                        try clear c21b1z
                        try clear c23
                        try clear c23b0
                        try clear c23b0z
                        try clear c23b1
                        try clear c23b1z
                        try clear c24
                        try clear c25
                        try clear q25
                        try clear q28
                        try clear c31
                        try clear c31b0
                        try clear c31b0z
                        try clear c32
                        try clear c32b0
                        try clear c32b0z
                        try clear c32b1
                        try clear c32b1z
                        try clear c33
                        try clear c33b0
                        try clear c33b0z
                        try clear c33b1
                        try clear c33b1z
                        try clear c35
                        try clear c35b0
                        try clear c35b0z
                        try clear c35b1
                        try clear c35b1z
                        try clear q37
                        try clear q40
                        try clear p2
                        try clear p6
                        try clear q2
                        try clear q25
                        try clear q28
                        try clear q37
                        try clear q40
                        obtain ⟨x18_4, rfl, HA, HK4, HO_9, HB⟩ := hrel
                        cases gk with
                        | zero => exact absurd HA.out (by simp [shelfmarklaw01_PackCuts.l2])
                        | succ k4 =>
                          have H := HA.out
                          clear HA
                          simp only [shelfmarklaw01_PackCuts.l2] at H
                          by_cases c43 : x18_4 < (t407.length : Int)
                          · rw [if_pos c43] at H
                            have c43b0 : decide (x18_4 < (t407.length : Int)) = true := decide_eq_true c43
                            clear c43
                            by_cases c44 : 0 ≤ x18_4
                            · rw [if_pos c44] at H
                              have c44b0 := eq_true c44
                              have c44b1 : decide (0 ≤ x18_4) = true := decide_eq_true c44
                              clear c44
                              by_cases c45 : x18_4 ≤ (t407.length : Int)
                              · rw [if_pos c45] at H
                                have c45b0 := eq_true c45
                                have c45b1 : decide (x18_4 ≤ (t407.length : Int)) = true := decide_eq_true c45
                                clear c45
                                obtain ⟨y424, hy424⟩ : ∃ y_ : List Int, y_ = (t407.take (x18_4 : Int).toNat) := ⟨_, rfl⟩
                                replace H : ((pack_GetTexts.f k4 y424 0 1000 1000).bind fun bt428 => (if bt428.2.2 = 2 then (shelfmarklaw01_PackCuts.l2 k4 t407 (wrap64 (x18_4 + 1))) else (some false))) = some r := by first | (rw [hy424]; with_reducible exact H) | (have H2_ := (Option.bind_some _ _).symm.trans H; rw [hy424]; with_reducible exact H2_) | (have H2_ := (Option.bind_some _ _).symm.trans H; with_reducible exact H2_) | with_reducible exact H | (rw [hy424]; exact H) | exact H
                                have Ny424 := Aside0.mk hy424
                                clear hy424
                                replace H := Option.bind_eq_some_iff.mp H
                                obtain ⟨⟨t428, t429, t430⟩, A460, H⟩ := H
                                replace H : (if t430 = 2 then (shelfmarklaw01_PackCuts.l2 k4 t407 (wrap64 (x18_4 + 1))) else (some false)) = some r := H
                                have A46 := Aside0.mk A460
                                clear A460
                                by_cases c47 : t430 = 2
                                · rw [if_pos c47] at H
                                  have c47b0 : (t430 == 2) = true := beq_iff_eq.mpr c47
                                  have c47b1 : (t430 != 2) = false := bne_eq_false_iff_eq.mpr c47
                                  clear c47
                                  have H' := Aside0.mk H
                                  clear H
                                  obtain ⟨Ao48, co48, eo48⟩ := Kd.R_slice HO_9.out
                                  subst eo48
                                  have q49 : (x18_4 : Int) ≤ ((t407.length : Int) : Int) := of_decide_eq_true (by first | (with_reducible assumption) | assumption)
                                  obtain ⟨i049, hi049, _, hsz49, _⟩ := info_parts info5
                                  have hroom49 : t407.length ≤ co48 := (Kd.R_reads' HO_9.out).2.1
                                  have hC49 : Kd.C (Kd.int .u8) _ Ao48 t407.length t407 := (Kd.R_reads' HO_9.out).2.2
                                  have hcut49 := cut_to (P := Try.prog) 22 5 .i64 Try.underlying22 hi049 Ao48 t407.length co48 x18_4 (of_decide_eq_true (by first | (with_reducible assumption) | assumption)) q49 hroom49
                                  have hr49 := Kd.C_take (m := (x18_4 : Int).toNat) hC49 (by omega)
                                  have hy49 : y424.length = (x18_4 : Int).toNat := (by rw [Ny424.out, List.length_take]; omega)
                                  rw [← Ny424.out] at hr49
                                  rw [← hy49] at hcut49
                                  have HR427 := Aside0.mk hr49
                                  have HC427 := Aside0.mk (show y424.length ≤ co48 from by omega)
                                  clear hr49 hC49 hroom49 hi049 hsz49
                                  have KY49 := Aside0.mk hy49
                                  clear hy49
                                  have KL49 := Aside0.mk (show (x18_4 : Int).toNat ≤ t407.length from by omega)
                                  replace q49 := eq_true q49
                                  go_wp2_with (first | ((with_reducible refine gate_callee (f := 15) rfl ?_); refine goesL_ (some 84) rfl rfl Try.func15 (by kernel_rfl) rfl #[.slice Ao48 y424.length co48, .int .i64 0, .int .i64 1000, .int .i64 1000] rfl (by (try simp only [List.map_toArray, List.map_cons, List.map_nil]); first | done | rfl | (simp only [List.length_drop, List.length_take]; rfl)) ?_; (with_reducible refine (pack_GetTexts.calls k4 _ _ y424 0 1000 1000 t428 t429 t430 _ ?side1 ?side2 A46.out).mono ?_); (case side1 => repeat (first | exact (by repeat (first | (with_reducible exact HR427.out) | (with_reducible refine Kd.C_alloc ?_ _) | (with_reducible refine Kd.C_drewN ?_ _) | (with_reducible refine Kd.C_drew ?_) | exact HR427.out)) | (with_reducible refine Kd.C_alloc ?_ _) | (with_reducible refine Kd.C_drewN ?_ _) | (with_reducible refine Kd.C_drew ?_))); (case side2 => exact HC427.out); rintro e w50 ⟨v431, rfl, ho0, hb⟩; refine ⟨_, rfl, ?_⟩; have n0_ := Aside0.mk (Kd.R_below (by (with_reducible repeat (first | apply Kd.R_alloc | apply Kd.R_drewN | apply Kd.R_drew)); exact HO_9.out) hb); have n1_ := Aside0.mk (Kd.R_lower ho0 (below_size (by repeat (first | (with_reducible first | exact HB.out | apply below_alloc | apply pw_below_drewN | apply below_drew1) | exact HB.out)))); have n2_ := Aside0.mk (Kd.C_below (by repeat (first | (with_reducible exact HR427.out) | (with_reducible refine Kd.C_alloc ?_ _) | (with_reducible refine Kd.C_drewN ?_ _) | (with_reducible refine Kd.C_drew ?_) | exact HR427.out)) hb); have n3_ := Aside0.mk (below_step (by repeat (first | (with_reducible first | exact HB.out | apply below_alloc | apply pw_below_drewN | apply below_drew1) | exact HB.out)) hb); clear HO_9; clear HR427; clear HB; have HO_9 := n0_; have HO432 := n1_; have HR427 := n2_; have HB := n3_; clear n0_ n1_ n2_ n3_; (try clear hb); (try clear hb2); (try clear hk); (try clear hi); (try clear ho0)))
                                  go_roundg k4
                                  case measure => have := HJ5.out; have := HK2.out; have := HK3.out; have := HK4.out; omega
                                  case rel => exact ⟨(wrap64 (x18_4 + 1)), (by first | rfl | (simp; done) | (simp [*]; done)), H', ⟨by have := HJ5.out; have := HK2.out; have := HK3.out; have := HK4.out; omega⟩, ⟨by (with_reducible repeat (first | apply Kd.R_alloc | apply Kd.R_drewN | apply Kd.R_drew)); exact HO_9.out⟩, ⟨by repeat (first | (with_reducible first | exact HB.out | apply below_alloc | apply pw_below_drewN | apply below_drew1) | exact HB.out)⟩⟩
                                · rw [if_neg c47] at H
                                  have c47b0 : (t430 == 2) = false := beq_eq_false_iff_ne.mpr c47
                                  have c47b1 : (t430 != 2) = true := bne_iff_ne.mpr c47
                                  obtain rfl := Option.some.inj H
                                  obtain ⟨Ao51, co51, eo51⟩ := Kd.R_slice HO_9.out
                                  subst eo51
                                  have q52 : (x18_4 : Int) ≤ ((t407.length : Int) : Int) := of_decide_eq_true (by first | (with_reducible assumption) | assumption)
                                  obtain ⟨i052, hi052, _, hsz52, _⟩ := info_parts info5
                                  have hroom52 : t407.length ≤ co51 := (Kd.R_reads' HO_9.out).2.1
                                  have hC52 : Kd.C (Kd.int .u8) _ Ao51 t407.length t407 := (Kd.R_reads' HO_9.out).2.2
                                  have hcut52 := cut_to (P := Try.prog) 22 5 .i64 Try.underlying22 hi052 Ao51 t407.length co51 x18_4 (of_decide_eq_true (by first | (with_reducible assumption) | assumption)) q52 hroom52
                                  have hr52 := Kd.C_take (m := (x18_4 : Int).toNat) hC52 (by omega)
                                  have hy52 : y424.length = (x18_4 : Int).toNat := (by rw [Ny424.out, List.length_take]; omega)
                                  rw [← Ny424.out] at hr52
                                  rw [← hy52] at hcut52
                                  have HR427 := Aside0.mk hr52
                                  have HC427 := Aside0.mk (show y424.length ≤ co51 from by omega)
                                  clear hr52 hC52 hroom52 hi052 hsz52
                                  have KY52 := Aside0.mk hy52
                                  clear hy52
                                  have KL52 := Aside0.mk (show (x18_4 : Int).toNat ≤ t407.length from by omega)
                                  replace q52 := eq_true q52
                                  go_wp2_with (first | ((with_reducible refine gate_callee (f := 15) rfl ?_); refine goesL_ (some 84) rfl rfl Try.func15 (by kernel_rfl) rfl #[.slice Ao51 y424.length co51, .int .i64 0, .int .i64 1000, .int .i64 1000] rfl (by (try simp only [List.map_toArray, List.map_cons, List.map_nil]); first | done | rfl | (simp only [List.length_drop, List.length_take]; rfl)) ?_; (with_reducible refine (pack_GetTexts.calls k4 _ _ y424 0 1000 1000 t428 t429 t430 _ ?side1 ?side2 A46.out).mono ?_); (case side1 => repeat (first | exact (by repeat (first | (with_reducible exact HR427.out) | (with_reducible refine Kd.C_alloc ?_ _) | (with_reducible refine Kd.C_drewN ?_ _) | (with_reducible refine Kd.C_drew ?_) | exact HR427.out)) | (with_reducible refine Kd.C_alloc ?_ _) | (with_reducible refine Kd.C_drewN ?_ _) | (with_reducible refine Kd.C_drew ?_))); (case side2 => exact HC427.out); rintro e w53 ⟨v431, rfl, ho0, hb⟩; refine ⟨_, rfl, ?_⟩; have n0_ := Aside0.mk (Kd.R_below (by (with_reducible repeat (first | apply Kd.R_alloc | apply Kd.R_drewN | apply Kd.R_drew)); exact HO_9.out) hb); have n1_ := Aside0.mk (Kd.R_lower ho0 (below_size (by repeat (first | (with_reducible first | exact HB.out | apply below_alloc | apply pw_below_drewN | apply below_drew1) | exact HB.out)))); have n2_ := Aside0.mk (Kd.C_below (by repeat (first | (with_reducible exact HR427.out) | (with_reducible refine Kd.C_alloc ?_ _) | (with_reducible refine Kd.C_drewN ?_ _) | (with_reducible refine Kd.C_drew ?_) | exact HR427.out)) hb); have n3_ := Aside0.mk (below_step (by repeat (first | (with_reducible first | exact HB.out | apply below_alloc | apply pw_below_drewN | apply below_drew1) | exact HB.out)) hb); clear HO_9; clear HR427; clear HB; have HO_9 := n0_; have HO432 := n1_; have HR427 := n2_; have HB := n3_; clear n0_ n1_ n2_ n3_; (try clear hb); (try clear hb2); (try clear hk); (try clear hi); (try clear ho0)))
                                  go_ret
                                  exact ⟨by first | rfl | (simp [errW_none, errW_some] <;> rfl) | (simp [*, errW_none, errW_some] <;> rfl), by repeat (first | (with_reducible first | exact HB.out | apply below_alloc | apply pw_below_drewN | apply below_drew1) | exact HB.out)⟩
                              · rw [if_neg c45] at H
                                exact absurd H (by simp)
                            · rw [if_neg c44] at H
                              exact absurd H (by simp)
                          · rw [if_neg c43] at H
                            have c43b0 : decide (x18_4 < (t407.length : Int)) = false := decide_eq_false c43
                            clear c43
                            obtain rfl := Option.some.inj H
                            obtain ⟨Ao54, co54, eo54⟩ := Kd.R_slice HO_9.out
                            subst eo54
                            go_wp2
                            go_ret
                            exact ⟨by first | rfl | (simp [errW_none, errW_some] <;> rfl) | (simp [*, errW_none, errW_some] <;> rfl), by repeat (first | (with_reducible first | exact HB.out | apply below_alloc | apply pw_below_drewN | apply below_drew1) | exact HB.out)⟩
  · replace c5 := Bool.eq_false_iff.mpr c5
    subst c5
    have H1 : (some false) = some r := by rw [if_neg (show ¬ (false = true) by decide)] at H; exact H
    clear H
    have H := H1
    clear H1
    obtain rfl := Option.some.inj H
    go_enter Try.func8, Try.ntmps8
    go_wp2_with (first | ((with_reducible refine gate_callee (f := 10) rfl ?_); refine goesL_ (some 22) rfl rfl Try.func10 (by kernel_rfl) rfl #[] rfl (by (try simp only [List.map_toArray, List.map_cons, List.map_nil]); first | done | rfl | (simp only [List.length_drop, List.length_take]; rfl)) ?_; (with_reducible refine (shelfmarklaw01_awake.calls k  false _ A4.out).mono ?_); rintro e w55 ⟨rfl, hb⟩; refine ⟨_, rfl, ?_⟩; have n0_ := Aside0.mk (below_step (by repeat (first | (with_reducible first | exact HB.out | apply below_alloc | apply pw_below_drewN | apply below_drew1) | exact HB.out)) hb); clear HB; have HB := n0_; clear n0_; (try clear hb); (try clear hb2); (try clear hk); (try clear hi)))
    go_ret
    exact ⟨by first | rfl | (simp [errW_none, errW_some] <;> rfl) | (simp [*, errW_none, errW_some] <;> rfl), by repeat (first | (with_reducible first | exact HB.out | apply below_alloc | apply pw_below_drewN | apply below_drew1) | exact HB.out)⟩

end Go.Proofs.Ytdbikehjcmhjjaa.PAll
