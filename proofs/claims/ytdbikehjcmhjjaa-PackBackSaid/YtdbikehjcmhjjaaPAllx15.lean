-- Written by a program of this session for this claim (mp.py, over the kit's print); Lean checks it.
import Derived.Test.YtdbikehjcmhjjaaPAllx0
import Derived.Test.YtdbikehjcmhjjaaPAllx1
import Derived.Test.YtdbikehjcmhjjaaPAllx2
import Derived.Test.YtdbikehjcmhjjaaPAllx4
import Derived.Test.YtdbikehjcmhjjaaPAllx6
import Derived.Test.YtdbikehjcmhjjaaPAllx7
import Derived.Test.YtdbikehjcmhjjaaPAllx8
import Derived.Test.YtdbikehjcmhjjaaPAllx9
import Derived.Test.YtdbikehjcmhjjaaPAllx10
namespace Go.Proofs.Ytdbikehjcmhjjaa.PAll
open Go.RowKit Go.Proofs.YtdbikehjcmhjjaaW.PrintWords Go.Proofs.YtdbikehjcmhjjaaW.PrintLast Go.Proofs.YtdbikehjcmhjjaaW.PrintMore
attribute [local go_sem] max2_int min2_int max_two min_two max_three min_three max_four min_four   -- for this text's walks alone
set_option linter.unusedVariables false
set_option linter.unusedSimpArgs false

/-! ### shelfmarklaw01_PackBack: function 9 -/
mutual
def shelfmarklaw01_PackBack.j0 : Nat → Int → ByteArray → List ByteArray → List Int → Bool → Option (Bool)
  | 0, _, _, _, _, _ => none
  | k + 1, x0, x1, x2, x3, x30 => if x30 = true then (some true) else (if x0 < 0 then ((pack_Num.f k x0).bind fun t435 => (some ((t435.length : Int) == 0))) else ((pack_Num.f k x0).bind fun t438 => ((pack_Text.f k x1).bind fun t441 => ((pack_Texts.f k x2).bind fun t444 => ((pack_Join.f k (([t438, t441, t444] : List (List Int)))).bind fun t450 => ((some (([] : List Int) : List Int)).bind fun y453 => (if y453.length + t450.length < 140737488355328 then ((some (y453 ++ t450 : List Int)).bind fun y456 => (if y456.length + x3.length < 140737488355328 then ((some (y456 ++ x3 : List Int)).bind fun y459 => ((pack_GetNum.f k y459 0).bind fun bt462 => (if bt462.1 = x0 then (shelfmarklaw01_PackBack.j1 k x1 x2 t450 y459 bt462.2.1 (bt462.2.2 != 0)) else (shelfmarklaw01_PackBack.j1 k x1 x2 t450 y459 bt462.2.1 true)))) else (none))) else (none))))))))
def shelfmarklaw01_PackBack.j1 : Nat → ByteArray → List ByteArray → List Int → List Int → Int → Bool → Option (Bool)
  | 0, _, _, _, _, _, _ => none
  | k + 1, x1, x2, x9, x10, x12, x62 => if x62 = true then (some false) else ((pack_GetText.f k x10 x12 (x1.size : Int)).bind fun bt465 => (if bt465.1.toList = x1.toList then (shelfmarklaw01_PackBack.j2 k x2 x9 x10 bt465.2.1 (bt465.2.2 != 0)) else (shelfmarklaw01_PackBack.j2 k x2 x9 x10 bt465.2.1 true)))
def shelfmarklaw01_PackBack.j2 : Nat → List ByteArray → List Int → List Int → Int → Bool → Option (Bool)
  | 0, _, _, _, _, _ => none
  | k + 1, x2, x9, x10, x12, x78 => if x78 = true then (some false) else ((pack_GetTexts.f k x10 x12 (x2.length : Int) 3000).bind fun bt468 => (if bt468.2.2 = 0 then ((shelfmarkref01_SameTexts.f k bt468.1 x2).bind fun t473 => (if t473 = true then (some (bt468.2.1 == (x9.length : Int))) else (some false))) else (some false)))
end
def shelfmarklaw01_PackBack.f (k : Nat) (a0 : Int) (a1 : ByteArray) (l2 : List ByteArray) (l3 : List Int) : Option (Bool) := (shelfmarklaw01_awake.f k).bind fun t433 => (if t433 = true then (if (a1.size : Int) > 3000 then (shelfmarklaw01_PackBack.j0 k a0 a1 l2 l3 true) else (if (l3.length : Int) > 3000 then (shelfmarklaw01_PackBack.j0 k a0 a1 l2 l3 true) else ((shelfmarkref01_Bulk.f k l2 3000).bind fun t434 => (shelfmarklaw01_PackBack.j0 k a0 a1 l2 l3 (decide (t434 > 3000)))))) else (some false))
theorem shelfmarklaw01_PackBack.mono_l : ∀ k, (∀ y0 y1 y2 y3 y4, LeO (shelfmarklaw01_PackBack.j0 k y0 y1 y2 y3 y4) (shelfmarklaw01_PackBack.j0 (k + 1) y0 y1 y2 y3 y4)) ∧ (∀ y0 y1 y2 y3 y4 y5, LeO (shelfmarklaw01_PackBack.j1 k y0 y1 y2 y3 y4 y5) (shelfmarklaw01_PackBack.j1 (k + 1) y0 y1 y2 y3 y4 y5)) ∧ (∀ y0 y1 y2 y3 y4, LeO (shelfmarklaw01_PackBack.j2 k y0 y1 y2 y3 y4) (shelfmarklaw01_PackBack.j2 (k + 1) y0 y1 y2 y3 y4))
  | 0 => ⟨fun _ _ _ _ _ r h => by simp [shelfmarklaw01_PackBack.j0] at h, fun _ _ _ _ _ _ r h => by simp [shelfmarklaw01_PackBack.j1] at h, fun _ _ _ _ _ r h => by simp [shelfmarklaw01_PackBack.j2] at h⟩
  | k + 1 => by
    obtain ⟨ih0, ih1, ih2⟩ := shelfmarklaw01_PackBack.mono_l k
    refine ⟨?_, ?_, ?_⟩
    · intro y0 y1 y2 y3 y4
      unfold shelfmarklaw01_PackBack.j0
      repeat' first
      | (with_reducible exact ih0 _ _ _ _ _)
      | (with_reducible exact ih1 _ _ _ _ _ _)
      | (with_reducible exact ih2 _ _ _ _ _)
      | (with_reducible exact pack_GetNum.mono _ _ _)
      | (with_reducible exact pack_GetText.mono _ _ _ _)
      | (with_reducible exact pack_GetTexts.mono _ _ _ _ _)
      | (with_reducible exact pack_Join.mono _ _)
      | (with_reducible exact pack_Num.mono _ _)
      | (with_reducible exact pack_Text.mono _ _)
      | (with_reducible exact pack_Texts.mono _ _)
      | (with_reducible exact shelfmarklaw01_awake.mono _)
      | (with_reducible exact shelfmarkref01_Bulk.mono _ _ _)
      | (with_reducible exact shelfmarkref01_SameTexts.mono _ _ _)
      | (with_reducible exact LeO.refl _)
      | (with_reducible exact LeO.none _)
      | (with_reducible refine LeO.ite ?_ ?_)
      | (with_reducible refine LeO.bind ?_ (fun _ => ?_))
      | exact ih0 _ _ _ _ _
      | exact ih1 _ _ _ _ _ _
      | exact ih2 _ _ _ _ _
      | exact pack_GetNum.mono _ _ _
      | exact pack_GetText.mono _ _ _ _
      | exact pack_GetTexts.mono _ _ _ _ _
      | exact pack_Join.mono _ _
      | exact pack_Num.mono _ _
      | exact pack_Text.mono _ _
      | exact pack_Texts.mono _ _
      | exact shelfmarklaw01_awake.mono _
      | exact shelfmarkref01_Bulk.mono _ _ _
      | exact shelfmarkref01_SameTexts.mono _ _ _
      | exact LeO.none _
      | refine LeO.ite ?_ ?_
      | refine LeO.bind ?_ (fun _ => ?_)
    · intro y0 y1 y2 y3 y4 y5
      unfold shelfmarklaw01_PackBack.j1
      repeat' first
      | (with_reducible exact ih0 _ _ _ _ _)
      | (with_reducible exact ih1 _ _ _ _ _ _)
      | (with_reducible exact ih2 _ _ _ _ _)
      | (with_reducible exact pack_GetNum.mono _ _ _)
      | (with_reducible exact pack_GetText.mono _ _ _ _)
      | (with_reducible exact pack_GetTexts.mono _ _ _ _ _)
      | (with_reducible exact pack_Join.mono _ _)
      | (with_reducible exact pack_Num.mono _ _)
      | (with_reducible exact pack_Text.mono _ _)
      | (with_reducible exact pack_Texts.mono _ _)
      | (with_reducible exact shelfmarklaw01_awake.mono _)
      | (with_reducible exact shelfmarkref01_Bulk.mono _ _ _)
      | (with_reducible exact shelfmarkref01_SameTexts.mono _ _ _)
      | (with_reducible exact LeO.refl _)
      | (with_reducible exact LeO.none _)
      | (with_reducible refine LeO.ite ?_ ?_)
      | (with_reducible refine LeO.bind ?_ (fun _ => ?_))
      | exact ih0 _ _ _ _ _
      | exact ih1 _ _ _ _ _ _
      | exact ih2 _ _ _ _ _
      | exact pack_GetNum.mono _ _ _
      | exact pack_GetText.mono _ _ _ _
      | exact pack_GetTexts.mono _ _ _ _ _
      | exact pack_Join.mono _ _
      | exact pack_Num.mono _ _
      | exact pack_Text.mono _ _
      | exact pack_Texts.mono _ _
      | exact shelfmarklaw01_awake.mono _
      | exact shelfmarkref01_Bulk.mono _ _ _
      | exact shelfmarkref01_SameTexts.mono _ _ _
      | exact LeO.none _
      | refine LeO.ite ?_ ?_
      | refine LeO.bind ?_ (fun _ => ?_)
    · intro y0 y1 y2 y3 y4
      unfold shelfmarklaw01_PackBack.j2
      repeat' first
      | (with_reducible exact ih0 _ _ _ _ _)
      | (with_reducible exact ih1 _ _ _ _ _ _)
      | (with_reducible exact ih2 _ _ _ _ _)
      | (with_reducible exact pack_GetNum.mono _ _ _)
      | (with_reducible exact pack_GetText.mono _ _ _ _)
      | (with_reducible exact pack_GetTexts.mono _ _ _ _ _)
      | (with_reducible exact pack_Join.mono _ _)
      | (with_reducible exact pack_Num.mono _ _)
      | (with_reducible exact pack_Text.mono _ _)
      | (with_reducible exact pack_Texts.mono _ _)
      | (with_reducible exact shelfmarklaw01_awake.mono _)
      | (with_reducible exact shelfmarkref01_Bulk.mono _ _ _)
      | (with_reducible exact shelfmarkref01_SameTexts.mono _ _ _)
      | (with_reducible exact LeO.refl _)
      | (with_reducible exact LeO.none _)
      | (with_reducible refine LeO.ite ?_ ?_)
      | (with_reducible refine LeO.bind ?_ (fun _ => ?_))
      | exact ih0 _ _ _ _ _
      | exact ih1 _ _ _ _ _ _
      | exact ih2 _ _ _ _ _
      | exact pack_GetNum.mono _ _ _
      | exact pack_GetText.mono _ _ _ _
      | exact pack_GetTexts.mono _ _ _ _ _
      | exact pack_Join.mono _ _
      | exact pack_Num.mono _ _
      | exact pack_Text.mono _ _
      | exact pack_Texts.mono _ _
      | exact shelfmarklaw01_awake.mono _
      | exact shelfmarkref01_Bulk.mono _ _ _
      | exact shelfmarkref01_SameTexts.mono _ _ _
      | exact LeO.none _
      | refine LeO.ite ?_ ?_
      | refine LeO.bind ?_ (fun _ => ?_)
theorem shelfmarklaw01_PackBack.mono : ∀ a0 a1 a2 a3 k, LeO (shelfmarklaw01_PackBack.f k a0 a1 a2 a3) (shelfmarklaw01_PackBack.f (k + 1) a0 a1 a2 a3) := by
  intro a0 a1 a2 a3 k
  obtain ⟨ih0, ih1, ih2⟩ := shelfmarklaw01_PackBack.mono_l k
  unfold shelfmarklaw01_PackBack.f
  repeat' first
      | (with_reducible exact ih0 _ _ _ _ _)
      | (with_reducible exact ih1 _ _ _ _ _ _)
      | (with_reducible exact ih2 _ _ _ _ _)
      | (with_reducible exact pack_GetNum.mono _ _ _)
      | (with_reducible exact pack_GetText.mono _ _ _ _)
      | (with_reducible exact pack_GetTexts.mono _ _ _ _ _)
      | (with_reducible exact pack_Join.mono _ _)
      | (with_reducible exact pack_Num.mono _ _)
      | (with_reducible exact pack_Text.mono _ _)
      | (with_reducible exact pack_Texts.mono _ _)
      | (with_reducible exact shelfmarklaw01_awake.mono _)
      | (with_reducible exact shelfmarkref01_Bulk.mono _ _ _)
      | (with_reducible exact shelfmarkref01_SameTexts.mono _ _ _)
      | (with_reducible exact LeO.refl _)
      | (with_reducible exact LeO.none _)
      | (with_reducible refine LeO.ite ?_ ?_)
      | (with_reducible refine LeO.bind ?_ (fun _ => ?_))
      | exact ih0 _ _ _ _ _
      | exact ih1 _ _ _ _ _ _
      | exact ih2 _ _ _ _ _
      | exact pack_GetNum.mono _ _ _
      | exact pack_GetText.mono _ _ _ _
      | exact pack_GetTexts.mono _ _ _ _ _
      | exact pack_Join.mono _ _
      | exact pack_Num.mono _ _
      | exact pack_Text.mono _ _
      | exact pack_Texts.mono _ _
      | exact shelfmarklaw01_awake.mono _
      | exact shelfmarkref01_Bulk.mono _ _ _
      | exact shelfmarkref01_SameTexts.mono _ _ _
      | exact LeO.none _
      | refine LeO.ite ?_ ?_
      | refine LeO.bind ?_ (fun _ => ?_)
set_option maxHeartbeats 8000000 in
set_option maxRecDepth 100000 in
theorem shelfmarklaw01_PackBack.calls (k : Nat) (a0 : Int) (a1 : ByteArray) (A2 : Option Addr) (c2 : Nat) (l2 : List ByteArray) (A3 : Option Addr) (c3 : Nat) (l3 : List Int) (r : Bool) (w : World) (hr2 : Kd.C Kd.string w A2 l2.length l2) (hc2 : l2.length ≤ c2) (hr3 : Kd.C (Kd.int .u8) w A3 l3.length l3) (hc3 : l3.length ≤ c3) (h : shelfmarklaw01_PackBack.f k a0 a1 l2 l3 = some r) :
    Calls Try.prog 9 #[.int .i64 a0, .string a1, .slice A2 l2.length c2, .slice A3 l3.length c3] w fun e w' => e = .returned (.bool r) ∧ Below w.heap.size w w' := by
  have HR2 := Aside0.mk hr2
  have HC2 := Aside0.mk hc2
  clear hr2 hc2
  have HR3 := Aside0.mk hr3
  have HC3 := Aside0.mk hc3
  clear hr3 hc3
  have HB := Aside0.mk (Below.refl w.heap.size w)
  have H : ((shelfmarklaw01_awake.f k).bind fun t433 => (if t433 = true then (if (a1.size : Int) > 3000 then (shelfmarklaw01_PackBack.j0 k a0 a1 l2 l3 true) else (if (l3.length : Int) > 3000 then (shelfmarklaw01_PackBack.j0 k a0 a1 l2 l3 true) else ((shelfmarkref01_Bulk.f k l2 3000).bind fun t434 => (shelfmarklaw01_PackBack.j0 k a0 a1 l2 l3 (decide (t434 > 3000)))))) else (some false))) = some r := h
  clear h
  replace H := Option.bind_eq_some_iff.mp H
  obtain ⟨t433, A50, H⟩ := H
  replace H : (if t433 = true then (if (a1.size : Int) > 3000 then (shelfmarklaw01_PackBack.j0 k a0 a1 l2 l3 true) else (if (l3.length : Int) > 3000 then (shelfmarklaw01_PackBack.j0 k a0 a1 l2 l3 true) else ((shelfmarkref01_Bulk.f k l2 3000).bind fun t434 => (shelfmarklaw01_PackBack.j0 k a0 a1 l2 l3 (decide (t434 > 3000)))))) else (some false)) = some r := H
  have A5 := Aside0.mk A50
  clear A50
  by_cases c6 : t433 = true
  · subst c6
    have H1 : (if (a1.size : Int) > 3000 then (shelfmarklaw01_PackBack.j0 k a0 a1 l2 l3 true) else (if (l3.length : Int) > 3000 then (shelfmarklaw01_PackBack.j0 k a0 a1 l2 l3 true) else ((shelfmarkref01_Bulk.f k l2 3000).bind fun t434 => (shelfmarklaw01_PackBack.j0 k a0 a1 l2 l3 (decide (t434 > 3000)))))) = some r := by rw [if_pos rfl] at H; exact H
    clear H
    have H := H1
    clear H1
    have HC7 := Aside0.mk H
    clear H
    go_enter Try.func9, Try.ntmps9
    go_upto_region 3 with (first | ((with_reducible refine gate_callee (f := 10) rfl ?_); refine goesL_ (some 16) rfl rfl Try.func10 (by kernel_rfl) rfl #[] rfl (by (try simp only [List.map_toArray, List.map_cons, List.map_nil]); first | done | rfl | (simp only [List.length_drop, List.length_take]; rfl)) ?_; (with_reducible refine (shelfmarklaw01_awake.calls k  true _ A5.out).mono ?_); rintro e w8 ⟨rfl, hb⟩; refine ⟨_, rfl, ?_⟩; have n0_ := Aside0.mk (below_step (by repeat (first | (with_reducible first | exact HB.out | apply below_alloc | apply pw_below_drewN | apply below_drew1) | exact HB.out)) hb); clear HB; have HB := n0_; clear n0_; (try clear hb); (try clear hb2); (try clear hk); (try clear hi)))
    (try simp only [Act.put, List.setIfInBounds_toArray, List.set_cons_zero, List.set_cons_succ])
    go_cut [30] (fun v30 wc => ∃ (kq : Nat) (x30_6 : Bool), v30 = .bool x30_6 ∧ Aside0 (shelfmarklaw01_PackBack.j0 kq a0 a1 l2 l3 x30_6 = some r) ∧ Aside0 (kq ≤ k) ∧ Aside0 (Below w.heap.size w wc))
    case first =>
      have H := HC7.out
      clear HC7
      by_cases c9 : (a1.size : Int) > 3000
      · rw [if_pos c9] at H
        have c9b0 : decide (3000 < (a1.size : Int)) = true := decide_eq_true c9
        have c9b1 : decide (3000 < a1.size) = true := decide_eq_true (by omega)
        clear c9
        (first | rw [c9b0] | (simp only [i64_w, i32_w]; rw [c9b0]) | skip)
        have H' := Aside0.mk H
        clear H
        go_wp2
        go_meet
        case rel => exact ⟨_, (true), (by first | rfl | (simp; done) | (simp [*]; done)), H', ⟨by first | omega | exact Nat.le_refl _⟩, ⟨by repeat (first | (with_reducible first | exact HB.out | apply below_alloc | apply pw_below_drewN | apply below_drew1) | exact HB.out)⟩⟩
      · rw [if_neg c9] at H
        have c9b0 : decide (3000 < (a1.size : Int)) = false := decide_eq_false c9
        have c9b1 : decide (3000 < a1.size) = false := decide_eq_false (by omega)
        clear c9
        (first | rw [c9b0] | (simp only [i64_w, i32_w]; rw [c9b0]) | skip)
        by_cases c10 : (l3.length : Int) > 3000
        · rw [if_pos c10] at H
          have c10b0 : decide (3000 < (l3.length : Int)) = true := decide_eq_true c10
          have c10b1 : decide (3000 < l3.length) = true := decide_eq_true (by omega)
          clear c10
          have H' := Aside0.mk H
          clear H
          go_wp2
          go_meet
          case rel => exact ⟨_, (true), (by first | rfl | (simp; done) | (simp [*]; done)), H', ⟨by first | omega | exact Nat.le_refl _⟩, ⟨by repeat (first | (with_reducible first | exact HB.out | apply below_alloc | apply pw_below_drewN | apply below_drew1) | exact HB.out)⟩⟩
        · rw [if_neg c10] at H
          have c10b0 : decide (3000 < (l3.length : Int)) = false := decide_eq_false c10
          have c10b1 : decide (3000 < l3.length) = false := decide_eq_false (by omega)
          clear c10
          replace H := Option.bind_eq_some_iff.mp H
          obtain ⟨t434, A110, H⟩ := H
          replace H : (shelfmarklaw01_PackBack.j0 k a0 a1 l2 l3 (decide (t434 > 3000))) = some r := H
          have A11 := Aside0.mk A110
          clear A110
          have H' := Aside0.mk H
          clear H
          go_wp2_with (first | (go_at_call 18; (with_reducible refine (shelfmarkref01_Bulk.calls k _ _ l2 3000 t434 _ ?side1 ?side2 A11.out).mono ?_); (case side1 => repeat (first | exact (Kd.C_below HR2.out HB.out) | (with_reducible refine Kd.C_alloc ?_ _) | (with_reducible refine Kd.C_drewN ?_ _) | (with_reducible refine Kd.C_drew ?_))); (case side2 => exact HC2.out); rintro e w12 ⟨rfl, hb⟩; have n0_ := Aside0.mk (below_step (by repeat (first | (with_reducible first | exact HB.out | apply below_alloc | apply pw_below_drewN | apply below_drew1) | exact HB.out)) hb); clear HB; have HB := n0_; clear n0_; (try clear hb); (try clear hb2); (try clear hk); (try clear hi)))
          go_meet
          case rel => exact ⟨_, (decide (t434 > 3000)), (by first | rfl | (simp; done) | (simp [*]; done)), H', ⟨by first | omega | exact Nat.le_refl _⟩, ⟨by repeat (first | (with_reducible first | exact HB.out | apply below_alloc | apply pw_below_drewN | apply below_drew1) | exact HB.out)⟩⟩
    case rest =>
      clear HC7
      try clear c1
      try clear c2
      try clear p2
      try clear c3
      try clear c6
      try clear c9
      try clear c9b0
      try clear c9b0z
      try clear c9b1
      try clear c9b1z
      try clear c10
      try clear c10b0
      try clear c10b0z
      try clear c10b1
      try clear c10b1z
      obtain ⟨kq, x30_6, rfl, HA, HJ6, HB⟩ := hcut
      cases kq with
      | zero => exact absurd HA.out (by simp [shelfmarklaw01_PackBack.j0])
      | succ kj6 =>
        have H := HA.out
        clear HA
        simp only [shelfmarklaw01_PackBack.j0] at H
        by_cases c13 : x30_6 = true
        · subst c13
          have H1 : (some true) = some r := by rw [if_pos rfl] at H; exact H
          clear H
          have H := H1
          clear H1
          obtain rfl := Option.some.inj H
          go_wp2
          go_ret
          exact ⟨by first | rfl | (simp [errW_none, errW_some] <;> rfl) | (simp [*, errW_none, errW_some] <;> rfl), by repeat (first | (with_reducible first | exact HB.out | apply below_alloc | apply pw_below_drewN | apply below_drew1) | exact HB.out)⟩
        · replace c13 := Bool.eq_false_iff.mpr c13
          subst c13
          have H1 : (if a0 < 0 then ((pack_Num.f kj6 a0).bind fun t435 => (some ((t435.length : Int) == 0))) else ((pack_Num.f kj6 a0).bind fun t438 => ((pack_Text.f kj6 a1).bind fun t441 => ((pack_Texts.f kj6 l2).bind fun t444 => ((pack_Join.f kj6 (([t438, t441, t444] : List (List Int)))).bind fun t450 => ((some (([] : List Int) : List Int)).bind fun y453 => (if y453.length + t450.length < 140737488355328 then ((some (y453 ++ t450 : List Int)).bind fun y456 => (if y456.length + l3.length < 140737488355328 then ((some (y456 ++ l3 : List Int)).bind fun y459 => ((pack_GetNum.f kj6 y459 0).bind fun bt462 => (if bt462.1 = a0 then (shelfmarklaw01_PackBack.j1 kj6 a1 l2 t450 y459 bt462.2.1 (bt462.2.2 != 0)) else (shelfmarklaw01_PackBack.j1 kj6 a1 l2 t450 y459 bt462.2.1 true)))) else (none))) else (none)))))))) = some r := by rw [if_neg (show ¬ (false = true) by decide)] at H; exact H
          clear H
          have H := H1
          clear H1
          by_cases c14 : a0 < 0
          · rw [if_pos c14] at H
            have c14b0 : decide (a0 < 0) = true := decide_eq_true c14
            clear c14
            replace H := Option.bind_eq_some_iff.mp H
            obtain ⟨t435, A150, H⟩ := H
            replace H : (some ((t435.length : Int) == 0)) = some r := H
            have A15 := Aside0.mk A150
            clear A150
            obtain rfl := Option.some.inj H
            go_wp2_with (first | ((with_reducible refine gate_callee (f := 23) rfl ?_); refine goesL_ (some 34) rfl rfl Try.func23 (by kernel_rfl) rfl #[.int .i64 a0] rfl (by (try simp only [List.map_toArray, List.map_cons, List.map_nil]); first | done | rfl | (simp only [List.length_drop, List.length_take]; rfl)) ?_; (with_reducible refine (pack_Num.calls kj6 a0 t435 _ A15.out).mono ?_); rintro e w16 ⟨v436, rfl, ho0, hb⟩; refine ⟨_, rfl, ?_⟩; have n0_ := Aside0.mk (Kd.R_lower ho0 (below_size (by repeat (first | (with_reducible first | exact HB.out | apply below_alloc | apply pw_below_drewN | apply below_drew1) | exact HB.out)))); have n1_ := Aside0.mk (below_step (by repeat (first | (with_reducible first | exact HB.out | apply below_alloc | apply pw_below_drewN | apply below_drew1) | exact HB.out)) hb); clear HB; have HO437 := n0_; have HB := n1_; clear n0_ n1_; (try clear hb); (try clear hb2); (try clear hk); (try clear hi); (try clear ho0); obtain ⟨Ao17, co17, eo17⟩ := Kd.R_slice HO437.out; subst eo17))
            go_ret
            exact ⟨by first | rfl | (simp [errW_none, errW_some] <;> rfl) | (simp [*, errW_none, errW_some] <;> rfl), by repeat (first | (with_reducible first | exact HB.out | apply below_alloc | apply pw_below_drewN | apply below_drew1) | exact HB.out)⟩
          · rw [if_neg c14] at H
            have c14b0 : decide (a0 < 0) = false := decide_eq_false c14
            clear c14
            replace H := Option.bind_eq_some_iff.mp H
            obtain ⟨t438, A180, H⟩ := H
            replace H : ((pack_Text.f kj6 a1).bind fun t441 => ((pack_Texts.f kj6 l2).bind fun t444 => ((pack_Join.f kj6 (([t438, t441, t444] : List (List Int)))).bind fun t450 => ((some (([] : List Int) : List Int)).bind fun y453 => (if y453.length + t450.length < 140737488355328 then ((some (y453 ++ t450 : List Int)).bind fun y456 => (if y456.length + l3.length < 140737488355328 then ((some (y456 ++ l3 : List Int)).bind fun y459 => ((pack_GetNum.f kj6 y459 0).bind fun bt462 => (if bt462.1 = a0 then (shelfmarklaw01_PackBack.j1 kj6 a1 l2 t450 y459 bt462.2.1 (bt462.2.2 != 0)) else (shelfmarklaw01_PackBack.j1 kj6 a1 l2 t450 y459 bt462.2.1 true)))) else (none))) else (none)))))) = some r := H
            have A18 := Aside0.mk A180
            clear A180
            replace H := Option.bind_eq_some_iff.mp H
            obtain ⟨t441, A190, H⟩ := H
            replace H : ((pack_Texts.f kj6 l2).bind fun t444 => ((pack_Join.f kj6 (([t438, t441, t444] : List (List Int)))).bind fun t450 => ((some (([] : List Int) : List Int)).bind fun y453 => (if y453.length + t450.length < 140737488355328 then ((some (y453 ++ t450 : List Int)).bind fun y456 => (if y456.length + l3.length < 140737488355328 then ((some (y456 ++ l3 : List Int)).bind fun y459 => ((pack_GetNum.f kj6 y459 0).bind fun bt462 => (if bt462.1 = a0 then (shelfmarklaw01_PackBack.j1 kj6 a1 l2 t450 y459 bt462.2.1 (bt462.2.2 != 0)) else (shelfmarklaw01_PackBack.j1 kj6 a1 l2 t450 y459 bt462.2.1 true)))) else (none))) else (none))))) = some r := H
            have A19 := Aside0.mk A190
            clear A190
            replace H := Option.bind_eq_some_iff.mp H
            obtain ⟨t444, A200, H⟩ := H
            replace H : ((pack_Join.f kj6 (([t438, t441, t444] : List (List Int)))).bind fun t450 => ((some (([] : List Int) : List Int)).bind fun y453 => (if y453.length + t450.length < 140737488355328 then ((some (y453 ++ t450 : List Int)).bind fun y456 => (if y456.length + l3.length < 140737488355328 then ((some (y456 ++ l3 : List Int)).bind fun y459 => ((pack_GetNum.f kj6 y459 0).bind fun bt462 => (if bt462.1 = a0 then (shelfmarklaw01_PackBack.j1 kj6 a1 l2 t450 y459 bt462.2.1 (bt462.2.2 != 0)) else (shelfmarklaw01_PackBack.j1 kj6 a1 l2 t450 y459 bt462.2.1 true)))) else (none))) else (none)))) = some r := H
            have A20 := Aside0.mk A200
            clear A200
            obtain ⟨y447, hy447⟩ : ∃ y_ : List (List Int), y_ = (([t438, t441, t444] : List (List Int))) := ⟨_, rfl⟩
            replace H : ((pack_Join.f kj6 y447).bind fun t450 => ((some (([] : List Int) : List Int)).bind fun y453 => (if y453.length + t450.length < 140737488355328 then ((some (y453 ++ t450 : List Int)).bind fun y456 => (if y456.length + l3.length < 140737488355328 then ((some (y456 ++ l3 : List Int)).bind fun y459 => ((pack_GetNum.f kj6 y459 0).bind fun bt462 => (if bt462.1 = a0 then (shelfmarklaw01_PackBack.j1 kj6 a1 l2 t450 y459 bt462.2.1 (bt462.2.2 != 0)) else (shelfmarklaw01_PackBack.j1 kj6 a1 l2 t450 y459 bt462.2.1 true)))) else (none))) else (none)))) = some r := by first | (rw [hy447]; with_reducible exact H) | (have H2_ := (Option.bind_some _ _).symm.trans H; rw [hy447]; with_reducible exact H2_) | (have H2_ := (Option.bind_some _ _).symm.trans H; with_reducible exact H2_) | with_reducible exact H | (rw [hy447]; exact H) | exact H
            have Ny447 := Aside0.mk hy447
            clear hy447
            replace H := Option.bind_eq_some_iff.mp H
            obtain ⟨t450, A210, H⟩ := H
            replace H : ((some (([] : List Int) : List Int)).bind fun y453 => (if y453.length + t450.length < 140737488355328 then ((some (y453 ++ t450 : List Int)).bind fun y456 => (if y456.length + l3.length < 140737488355328 then ((some (y456 ++ l3 : List Int)).bind fun y459 => ((pack_GetNum.f kj6 y459 0).bind fun bt462 => (if bt462.1 = a0 then (shelfmarklaw01_PackBack.j1 kj6 a1 l2 t450 y459 bt462.2.1 (bt462.2.2 != 0)) else (shelfmarklaw01_PackBack.j1 kj6 a1 l2 t450 y459 bt462.2.1 true)))) else (none))) else (none))) = some r := H
            have A21 := Aside0.mk A210
            clear A210
            obtain ⟨y453, hy453⟩ : ∃ y_ : List Int, y_ = (([] : List Int)) := ⟨_, rfl⟩
            replace H : (if y453.length + t450.length < 140737488355328 then ((some (y453 ++ t450 : List Int)).bind fun y456 => (if y456.length + l3.length < 140737488355328 then ((some (y456 ++ l3 : List Int)).bind fun y459 => ((pack_GetNum.f kj6 y459 0).bind fun bt462 => (if bt462.1 = a0 then (shelfmarklaw01_PackBack.j1 kj6 a1 l2 t450 y459 bt462.2.1 (bt462.2.2 != 0)) else (shelfmarklaw01_PackBack.j1 kj6 a1 l2 t450 y459 bt462.2.1 true)))) else (none))) else (none)) = some r := by first | (rw [hy453]; with_reducible exact H) | (have H2_ := (Option.bind_some _ _).symm.trans H; rw [hy453]; with_reducible exact H2_) | (have H2_ := (Option.bind_some _ _).symm.trans H; with_reducible exact H2_) | with_reducible exact H | (rw [hy453]; exact H) | exact H
            have Ny453 := Aside0.mk hy453
            clear hy453
            by_cases c22 : y453.length + t450.length < 140737488355328
            · rw [if_pos c22] at H
              have LMc22 := Aside0.mk c22
              clear c22
              obtain ⟨y456, hy456⟩ : ∃ y_ : List Int, y_ = (y453 ++ t450) := ⟨_, rfl⟩
              replace H : (if y456.length + l3.length < 140737488355328 then ((some (y456 ++ l3 : List Int)).bind fun y459 => ((pack_GetNum.f kj6 y459 0).bind fun bt462 => (if bt462.1 = a0 then (shelfmarklaw01_PackBack.j1 kj6 a1 l2 t450 y459 bt462.2.1 (bt462.2.2 != 0)) else (shelfmarklaw01_PackBack.j1 kj6 a1 l2 t450 y459 bt462.2.1 true)))) else (none)) = some r := by first | (rw [hy456]; with_reducible exact H) | (have H2_ := (Option.bind_some _ _).symm.trans H; rw [hy456]; with_reducible exact H2_) | (have H2_ := (Option.bind_some _ _).symm.trans H; with_reducible exact H2_) | with_reducible exact H | (rw [hy456]; exact H) | exact H
              have Ny456 := Aside0.mk hy456
              clear hy456
              by_cases c23 : y456.length + l3.length < 140737488355328
              · rw [if_pos c23] at H
                have LMc23 := Aside0.mk c23
                clear c23
                obtain ⟨y459, hy459⟩ : ∃ y_ : List Int, y_ = (y456 ++ l3) := ⟨_, rfl⟩
                replace H : ((pack_GetNum.f kj6 y459 0).bind fun bt462 => (if bt462.1 = a0 then (shelfmarklaw01_PackBack.j1 kj6 a1 l2 t450 y459 bt462.2.1 (bt462.2.2 != 0)) else (shelfmarklaw01_PackBack.j1 kj6 a1 l2 t450 y459 bt462.2.1 true))) = some r := by first | (rw [hy459]; with_reducible exact H) | (have H2_ := (Option.bind_some _ _).symm.trans H; rw [hy459]; with_reducible exact H2_) | (have H2_ := (Option.bind_some _ _).symm.trans H; with_reducible exact H2_) | with_reducible exact H | (rw [hy459]; exact H) | exact H
                have Ny459 := Aside0.mk hy459
                clear hy459
                replace H := Option.bind_eq_some_iff.mp H
                obtain ⟨⟨t462, t463, t464⟩, A240, H⟩ := H
                replace H : (if t462 = a0 then (shelfmarklaw01_PackBack.j1 kj6 a1 l2 t450 y459 t463 (t464 != 0)) else (shelfmarklaw01_PackBack.j1 kj6 a1 l2 t450 y459 t463 true)) = some r := H
                have A24 := Aside0.mk A240
                clear A240
                have HC25 := Aside0.mk H
                clear H
                go_upto_region 10 with (first | ((with_reducible refine gate_callee (f := 23) rfl ?_); refine goesL_ (some 38) rfl rfl Try.func23 (by kernel_rfl) rfl #[.int .i64 a0] rfl (by (try simp only [List.map_toArray, List.map_cons, List.map_nil]); first | done | rfl | (simp only [List.length_drop, List.length_take]; rfl)) ?_; (with_reducible refine (pack_Num.calls kj6 a0 t438 _ A18.out).mono ?_); rintro e w26 ⟨v439, rfl, ho0, hb⟩; refine ⟨_, rfl, ?_⟩; have n0_ := Aside0.mk (Kd.R_lower ho0 (below_size (by repeat (first | (with_reducible first | exact HB.out | apply below_alloc | apply pw_below_drewN | apply below_drew1) | exact HB.out)))); have n1_ := Aside0.mk (below_step (by repeat (first | (with_reducible first | exact HB.out | apply below_alloc | apply pw_below_drewN | apply below_drew1) | exact HB.out)) hb); clear HB; have HO440 := n0_; have HB := n1_; clear n0_ n1_; (try clear hb); (try clear hb2); (try clear hk); (try clear hi); (try clear ho0)) | ((with_reducible refine gate_callee (f := 24) rfl ?_); refine goesL_ (some 40) rfl rfl Try.func24 (by kernel_rfl) rfl #[.string a1] rfl (by (try simp only [List.map_toArray, List.map_cons, List.map_nil]); first | done | rfl | (simp only [List.length_drop, List.length_take]; rfl)) ?_; (with_reducible refine (pack_Text.calls kj6 a1 t441 _ A19.out).mono ?_); rintro e w27 ⟨v442, rfl, ho0, hb⟩; refine ⟨_, rfl, ?_⟩; have n0_ := Aside0.mk (Kd.R_elder' (by (with_reducible repeat (first | apply Kd.R_alloc | apply Kd.R_drewN | apply Kd.R_drew)); exact HO440.out) (Kd.R_base ho0) hb); have n1_ := Aside0.mk (Kd.R_lower (Kd.R_new' ho0 (Kd.R_lt (by (with_reducible repeat (first | apply Kd.R_alloc | apply Kd.R_drewN | apply Kd.R_drew)); exact HO440.out))) (below_size (by repeat (first | (with_reducible first | exact HB.out | apply below_alloc | apply pw_below_drewN | apply below_drew1) | exact HB.out)))); have n2_ := Aside0.mk (below_step (by repeat (first | (with_reducible first | exact HB.out | apply below_alloc | apply pw_below_drewN | apply below_drew1) | exact HB.out)) hb); clear HO440; clear HB; have HO440 := n0_; have HO443 := n1_; have HB := n2_; clear n0_ n1_ n2_; (try clear hb); (try clear hb2); (try clear hk); (try clear hi); (try clear ho0)) | ((with_reducible refine gate_callee (f := 25) rfl ?_); refine goesL_ (some 42) rfl rfl Try.func25 (by kernel_rfl) rfl #[.slice A2 l2.length c2] rfl (by (try simp only [List.map_toArray, List.map_cons, List.map_nil]); first | done | rfl | (simp only [List.length_drop, List.length_take]; rfl)) ?_; (with_reducible refine (pack_Texts.calls kj6 _ _ l2 t444 _ ?side1 ?side2 A20.out).mono ?_); (case side1 => repeat (first | exact (Kd.C_below HR2.out HB.out) | (with_reducible refine Kd.C_alloc ?_ _) | (with_reducible refine Kd.C_drewN ?_ _) | (with_reducible refine Kd.C_drew ?_))); (case side2 => exact HC2.out); rintro e w28 ⟨v445, rfl, ho0, hb⟩; refine ⟨_, rfl, ?_⟩; have n0_ := Aside0.mk (Kd.R_elder' (by (with_reducible repeat (first | apply Kd.R_alloc | apply Kd.R_drewN | apply Kd.R_drew)); exact HO440.out) (Kd.R_base ho0) hb); have n1_ := Aside0.mk (Kd.R_elder' (by (with_reducible repeat (first | apply Kd.R_alloc | apply Kd.R_drewN | apply Kd.R_drew)); exact HO443.out) (Kd.R_base ho0) hb); have n2_ := Aside0.mk (Kd.R_lower (Kd.R_new' (Kd.R_new' ho0 (Kd.R_lt (by (with_reducible repeat (first | apply Kd.R_alloc | apply Kd.R_drewN | apply Kd.R_drew)); exact HO440.out))) (Kd.R_lt (by (with_reducible repeat (first | apply Kd.R_alloc | apply Kd.R_drewN | apply Kd.R_drew)); exact HO443.out))) (below_size (by repeat (first | (with_reducible first | exact HB.out | apply below_alloc | apply pw_below_drewN | apply below_drew1) | exact HB.out)))); have n3_ := Aside0.mk (below_step (by repeat (first | (with_reducible first | exact HB.out | apply below_alloc | apply pw_below_drewN | apply below_drew1) | exact HB.out)) hb); clear HO440; clear HO443; clear HB; have HO440 := n0_; have HO443 := n1_; have HO446 := n2_; have HB := n3_; clear n0_ n1_ n2_ n3_; (try clear hb); (try clear hb2); (try clear hk); (try clear hi); (try clear ho0); obtain ⟨Ao29, co29, eo29⟩ := Kd.R_slice HO440.out; subst eo29; obtain ⟨Ao30, co30, eo30⟩ := Kd.R_slice HO443.out; subst eo30; obtain ⟨Ao31, co31, eo31⟩ := Kd.R_slice HO446.out; subst eo31) | ((with_reducible refine gate_dst (N := 43) rfl ?_); (try (refine gate_guard (by rfl) ?_; dsimp only)); refine Kd.N_lit (Kd.slice 5 (Kd.int .u8)) _ 22 ?hg (N' := 43) ?hd (xs := ([t438, t441, t444] : List (List Int))) (inner := [.slice Ao29 t438.length co29, .slice Ao30 t441.length co30, .slice Ao31 t444.length co31]) (ok := (fun _ => True)) (okp := (fun _ => True)) ?hr ?hp (fun _ hk => hk) ((show ∀ k_, w28.heap.size ≤ k_ → (fun _ => True) k_ from fun k_ hk => trivial) _ (Nat.le_refl _)) (Below.refl _ _) (Nat.le_refl _) (by simp) ?_; (case hd => rfl); (case hg => rfl); (case hr => first | (go_simp; done) | (go_simp; rfl)); (case hp => exact (Reps.one (show Kd.FK (Kd.slice 5 (Kd.int .u8)) _ _ t438 [.slice Ao29 t438.length co29] from (Kd.FK_slice_mk (Kd.R_reads' (Kd.R_mono (ok' := (fun _ => True)) (HO440.out) (fun k_ hk => trivial))).2.1 (Kd.R_F (Kd.R_mono (ok' := (fun _ => True)) (HO440.out) (fun k_ hk => trivial))))) (Reps.one (show Kd.FK (Kd.slice 5 (Kd.int .u8)) _ _ t441 [.slice Ao30 t441.length co30] from (Kd.FK_slice_mk (Kd.R_reads' (Kd.R_mono (ok' := (fun _ => True)) (HO443.out) (fun k_ hk => trivial))).2.1 (Kd.R_F (Kd.R_mono (ok' := (fun _ => True)) (HO443.out) (fun k_ hk => trivial))))) (Reps.one (show Kd.FK (Kd.slice 5 (Kd.int .u8)) _ _ t444 [.slice Ao31 t444.length co31] from (Kd.FK_slice_mk (Kd.R_reads' (Kd.R_mono (ok' := (fun _ => True)) (HO446.out) (fun k_ hk => trivial))).2.1 (Kd.R_F (Kd.R_mono (ok' := (fun _ => True)) (HO446.out) (fun k_ hk => trivial))))) (Reps.none _ _))))); intro v448 w32 ho33 hb hg_ hnew_; clear hg_ hnew_; (first | rw [← Ny447.out] at ho33 | (simp only [Int.reduceToNat] at ho33; rw [← Ny447.out] at ho33)); have n0_ := Aside0.mk (Kd.N_lower ho33 (below_size (by repeat (first | (with_reducible first | exact HB.out | apply below_alloc | apply pw_below_drewN | apply below_drew1) | exact HB.out)))); have n1_ := Aside0.mk (below_step (by repeat (first | (with_reducible first | exact HB.out | apply below_alloc | apply pw_below_drewN | apply below_drew1) | exact HB.out)) hb); clear HB; clear HO440; clear HO443; clear HO446; have HO449 := n0_; have HB := n1_; clear n0_ n1_; clear hb ho33; obtain ⟨Ao34, co34, eo34⟩ := Kd.N_slice HO449.out; subst eo34) | ((with_reducible refine gate_callee (f := 26) rfl ?_); refine goesL_ (some 44) rfl rfl Try.func26 (by kernel_rfl) rfl #[.slice Ao34 y447.length co34] rfl (by (try simp only [List.map_toArray, List.map_cons, List.map_nil]); first | done | rfl | (simp only [List.length_drop, List.length_take]; rfl)) ?_; (with_reducible refine (pack_Join.calls kj6 _ _ y447 t450 _ ?side1 ?side2 A21.out).mono ?_); (case side1 => repeat (first | exact (Kd.N_reads' HO449.out).2.2 | (with_reducible refine Kd.C_alloc ?_ _) | (with_reducible refine Kd.C_drewN ?_ _) | (with_reducible refine Kd.C_drew ?_))); (case side2 => exact (Kd.N_reads' HO449.out).2.1); rintro e w35 ⟨v451, rfl, ho0, hb⟩; refine ⟨_, rfl, ?_⟩; have n0_ := Aside0.mk (Kd.N_elder' (by (with_reducible repeat (first | apply Kd.N_alloc | apply Kd.N_drewN | apply Kd.N_drew)); exact HO449.out) (Kd.R_base ho0) hb); have n1_ := Aside0.mk (Kd.R_lower ho0 (below_size (by repeat (first | (with_reducible first | exact HB.out | apply below_alloc | apply pw_below_drewN | apply below_drew1) | exact HB.out)))); have n2_ := Aside0.mk (below_step (by repeat (first | (with_reducible first | exact HB.out | apply below_alloc | apply pw_below_drewN | apply below_drew1) | exact HB.out)) hb); clear HO449; clear HB; have HO449 := n0_; have HO452 := n1_; have HB := n2_; clear n0_ n1_ n2_; (try clear hb); (try clear hb2); (try clear hk); (try clear hi); (try clear ho0)) | ((with_reducible refine gate_dst (N := 45) rfl ?_); (try (refine gate_guard (by rfl) ?_; dsimp only)); refine Kd.R_lit (Kd.int .u8) _ 5 ?hg (N := 45) ?hd (xs := ([] : List Int)) (inner := []) (ok := fun _ => True) (okp := fun _ => True) ?hr ?hp (fun _ hk => hk) trivial (Below.refl _ _) (Nat.le_refl _) (by simp) ?_; (case hd => rfl); (case hg => rfl); (case hr => first | (go_simp; done) | (go_simp; rfl)); (case hp => exact (Reps.none _ _)); intro v454 w36 ho37 hb hg_ hnew_; clear hg_ hnew_; (first | rw [← Ny453.out] at ho37 | (simp only [Int.reduceToNat] at ho37; rw [← Ny453.out] at ho37)); have n0_ := Aside0.mk (Kd.N_elder' (by (with_reducible repeat (first | apply Kd.N_alloc | apply Kd.N_drewN | apply Kd.N_drew)); exact HO449.out) (Kd.R_base ho37) hb); have n1_ := Aside0.mk (Kd.R_elder' (by (with_reducible repeat (first | apply Kd.R_alloc | apply Kd.R_drewN | apply Kd.R_drew)); exact HO452.out) (Kd.R_base ho37) hb); have n2_ := Aside0.mk (Kd.R_lower (Kd.R_new' ho37 (Kd.R_lt (by (with_reducible repeat (first | apply Kd.R_alloc | apply Kd.R_drewN | apply Kd.R_drew)); exact HO452.out))) (below_size (by repeat (first | (with_reducible first | exact HB.out | apply below_alloc | apply pw_below_drewN | apply below_drew1) | exact HB.out)))); have n3_ := Aside0.mk (below_step (by repeat (first | (with_reducible first | exact HB.out | apply below_alloc | apply pw_below_drewN | apply below_drew1) | exact HB.out)) hb); clear HO449; clear HO452; clear HB; have HO449 := n0_; have HO452 := n1_; have HO455 := n2_; have HB := n3_; clear n0_ n1_ n2_ n3_; clear hb ho37; obtain ⟨Ao39, co39, eo39⟩ := Kd.R_slice HO452.out; subst eo39) | ((with_reducible refine gate_builtin (b := .append) (xs := #[.tmp 45, .tmp 46]) rfl ?_); (try (refine gate_guard (by rfl) ?_; dsimp only)); at_builtin; refine Kd.R_append_rows (Kd.int .u8) (w0 := w) w.heap.size rfl (.tmp 45) (.tmp 46) 22 5 (.int .u8 0) 1 rfl Try.underlying22 info5 rfl (by decide) (by omega) v454 y453 t450 _ _ _ (fun k_ => some k_ ≠ (.slice Ao39 t450.length co39 : Value).ownBlock) (fun _ => False) rfl rfl ?aO ?aR (fun _ _ h => h) (fun _ h => h.elim) ?aF ?aB ?aS ?aL ?_; (case aR => repeat (first | exact (Kd.R_reads' HO452.out).2.2 | (with_reducible refine Kd.C_alloc ?_ _) | (with_reducible refine Kd.C_drewN ?_ _) | (with_reducible refine Kd.C_drew ?_))); (case aB => exact (by repeat (first | (with_reducible first | exact HB.out | apply below_alloc | apply pw_below_drewN | apply below_drew1) | exact HB.out))); (case aF => exact (fun k_ hk => Kd.fresh' (Kd.R_lt (by (with_reducible repeat (first | apply Kd.R_alloc | apply Kd.R_drewN | apply Kd.R_drew)); exact HO452.out)) k_ hk)); (case aO => exact (by (with_reducible repeat (first | apply Kd.R_alloc | apply Kd.R_drewN | apply Kd.R_drew)); exact Kd.R_mono HO455.out (fun _ hk => hk.2))); (case aS => exact (below_size (by repeat (first | (with_reducible first | exact HB.out | apply below_alloc | apply pw_below_drewN | apply below_drew1) | exact HB.out)))); (case aL => have := LMc22.out; omega); intro v457 w38 ho hb hg hat; rw [← Ny456.out] at ho; have n0_ := Aside0.mk (Kd.N_afterv (ok := (fun k_ => some k_ ≠ (.slice Ao39 t450.length co39 : Value).ownBlock)) (by (with_reducible repeat (first | apply Kd.N_alloc | apply Kd.N_drewN | apply Kd.N_drew)); exact Kd.N_mono HO449.out (fun _ hk => ⟨hk.1.2, hk.2⟩)) hg hat); have n1_ := Aside0.mk (Kd.R_after (ok := (fun _ => True)) (by (with_reducible repeat (first | apply Kd.R_alloc | apply Kd.R_drewN | apply Kd.R_drew)); exact HO452.out) hg hat); have n2_ := Aside0.mk (hb); have n3_ := Aside0.mk (ho); clear HO449; clear HO452; clear HB; clear HO455; have HO449 := n0_; have HO452 := n1_; have HB := n2_; have HO458 := n3_; clear n0_ n1_ n2_ n3_; clear ho hb hg hat) | ((with_reducible refine gate_builtin (b := .append) (xs := #[.tmp 47, .tmp 48]) rfl ?_); (try (refine gate_guard (by rfl) ?_; dsimp only)); at_builtin; refine Kd.R_append_rows (Kd.int .u8) (w0 := w) w.heap.size rfl (.tmp 47) (.tmp 48) 22 5 (.int .u8 0) 1 rfl Try.underlying22 info5 rfl (by decide) (by omega) v457 y456 l3 _ _ _ (fun k_ => some k_ ≠ (.slice Ao39 t450.length co39 : Value).ownBlock) (fun _ => False) rfl rfl ?aO ?aR (fun _ _ h => h) (fun _ h => h.elim) ?aF ?aB ?aS ?aL ?_; (case aR => repeat (first | exact (Kd.C_below HR3.out HB.out) | (with_reducible refine Kd.C_alloc ?_ _) | (with_reducible refine Kd.C_drewN ?_ _) | (with_reducible refine Kd.C_drew ?_))); (case aB => exact (by repeat (first | (with_reducible first | exact HB.out | apply below_alloc | apply pw_below_drewN | apply below_drew1) | exact HB.out))); (case aF => exact (fun k_ hk => Kd.fresh' (Kd.R_lt (by (with_reducible repeat (first | apply Kd.R_alloc | apply Kd.R_drewN | apply Kd.R_drew)); exact HO452.out)) k_ hk)); (case aO => exact (by (with_reducible repeat (first | apply Kd.R_alloc | apply Kd.R_drewN | apply Kd.R_drew)); exact HO458.out)); (case aS => exact (below_size (by repeat (first | (with_reducible first | exact HB.out | apply below_alloc | apply pw_below_drewN | apply below_drew1) | exact HB.out)))); (case aL => have := LMc23.out; omega); intro v460 w40 ho hb hg hat; rw [← Ny459.out] at ho; have n0_ := Aside0.mk (Kd.N_afterv (ok := (fun k_ => some k_ ≠ (.slice Ao39 t450.length co39 : Value).ownBlock)) (by (with_reducible repeat (first | apply Kd.N_alloc | apply Kd.N_drewN | apply Kd.N_drew)); exact HO449.out) hg hat); have n1_ := Aside0.mk (Kd.R_after (ok := (fun _ => True)) (by (with_reducible repeat (first | apply Kd.R_alloc | apply Kd.R_drewN | apply Kd.R_drew)); exact HO452.out) hg hat); have n2_ := Aside0.mk (hb); have n3_ := Aside0.mk (ho); clear HO449; clear HO452; clear HB; clear HO458; have HO449 := n0_; have HO452 := n1_; have HB := n2_; have HO461 := n3_; clear n0_ n1_ n2_ n3_; clear ho hb hg hat; obtain ⟨Ao41, co41, eo41⟩ := Kd.R_slice HO461.out; subst eo41) | ((with_reducible refine gate_callee (f := 11) rfl ?_); refine goesL_ (some 52) rfl rfl Try.func11 (by kernel_rfl) rfl #[.slice Ao41 y459.length co41, .int .i64 0] rfl (by (try simp only [List.map_toArray, List.map_cons, List.map_nil]); first | done | rfl | (simp only [List.length_drop, List.length_take]; rfl)) ?_; (with_reducible refine (pack_GetNum.calls kj6 _ _ y459 0 t462 t463 t464 _ ?side1 ?side2 A24.out).mono ?_); (case side1 => repeat (first | exact (Kd.R_reads' HO461.out).2.2 | (with_reducible refine Kd.C_alloc ?_ _) | (with_reducible refine Kd.C_drewN ?_ _) | (with_reducible refine Kd.C_drew ?_))); (case side2 => exact (Kd.R_reads' HO461.out).2.1); rintro e w42 ⟨rfl, hb⟩; refine ⟨_, rfl, ?_⟩; have n0_ := Aside0.mk (Kd.N_below (by (with_reducible repeat (first | apply Kd.N_alloc | apply Kd.N_drewN | apply Kd.N_drew)); exact HO449.out) hb); have n1_ := Aside0.mk (Kd.R_below (by (with_reducible repeat (first | apply Kd.R_alloc | apply Kd.R_drewN | apply Kd.R_drew)); exact HO452.out) hb); have n2_ := Aside0.mk (Kd.R_below (by (with_reducible repeat (first | apply Kd.R_alloc | apply Kd.R_drewN | apply Kd.R_drew)); exact HO461.out) hb); have n3_ := Aside0.mk (below_step (by repeat (first | (with_reducible first | exact HB.out | apply below_alloc | apply pw_below_drewN | apply below_drew1) | exact HB.out)) hb); clear HO449; clear HO452; clear HO461; clear HB; have HO449 := n0_; have HO452 := n1_; have HO461 := n2_; have HB := n3_; clear n0_ n1_ n2_ n3_; (try clear hb); (try clear hb2); (try clear hk); (try clear hi)))
                (try simp only [Act.put, List.setIfInBounds_toArray, List.set_cons_zero, List.set_cons_succ])
                go_cut [62] (fun v62 wc => ∃ (kq : Nat) (x62_24 : Bool), v62 = .bool x62_24 ∧ Aside0 (shelfmarklaw01_PackBack.j1 kq a1 l2 t450 y459 t463 x62_24 = some r) ∧ Aside0 (kq ≤ kj6) ∧ Aside0 (Kd.R (Kd.int .u8) 5 wc w.heap.size (fun k_ => some k_ ≠ ((.slice Ao41 y459.length co41) : Value).ownBlock) (.slice Ao39 t450.length co39) t450) ∧ Aside0 (Kd.R (Kd.int .u8) 5 wc w.heap.size (fun k_ => some k_ ≠ ((.slice Ao39 t450.length co39) : Value).ownBlock) (.slice Ao41 y459.length co41) y459) ∧ Aside0 (Below w.heap.size w wc))
                case first =>
                  have H := HC25.out
                  clear HC25
                  by_cases c43 : t462 = a0
                  · rw [if_pos c43] at H
                    have c43b0 : (t462 == a0) = true := beq_iff_eq.mpr c43
                    have c43b1 : (t462 != a0) = false := bne_eq_false_iff_eq.mpr c43
                    clear c43
                    (first | rw [c43b0] | (simp only [i64_w, i32_w]; rw [c43b0]) | skip)
                    have H' := Aside0.mk H
                    clear H
                    go_wp2
                    go_meet
                    case rel => exact ⟨_, ((t464 != 0)), (by first | rfl | (simp; done) | (simp [*]; done)), H', ⟨by have := HJ6.out; first | omega | exact Nat.le_refl _⟩, ⟨by (with_reducible repeat (first | apply Kd.R_alloc | apply Kd.R_drewN | apply Kd.R_drew)); exact Kd.R_mono HO452.out (fun _ hk => hk.2)⟩, ⟨by (with_reducible repeat (first | apply Kd.R_alloc | apply Kd.R_drewN | apply Kd.R_drew)); exact HO461.out⟩, ⟨by repeat (first | (with_reducible first | exact HB.out | apply below_alloc | apply pw_below_drewN | apply below_drew1) | exact HB.out)⟩⟩
                  · rw [if_neg c43] at H
                    have c43b0 : (t462 == a0) = false := beq_eq_false_iff_ne.mpr c43
                    have c43b1 : (t462 != a0) = true := bne_iff_ne.mpr c43
                    (first | rw [c43b0] | (simp only [i64_w, i32_w]; rw [c43b0]) | skip)
                    have H' := Aside0.mk H
                    clear H
                    go_wp2
                    go_meet
                    case rel => exact ⟨_, (true), (by first | rfl | (simp; done) | (simp [*]; done)), H', ⟨by have := HJ6.out; first | omega | exact Nat.le_refl _⟩, ⟨by (with_reducible repeat (first | apply Kd.R_alloc | apply Kd.R_drewN | apply Kd.R_drew)); exact Kd.R_mono HO452.out (fun _ hk => hk.2)⟩, ⟨by (with_reducible repeat (first | apply Kd.R_alloc | apply Kd.R_drewN | apply Kd.R_drew)); exact HO461.out⟩, ⟨by repeat (first | (with_reducible first | exact HB.out | apply below_alloc | apply pw_below_drewN | apply below_drew1) | exact HB.out)⟩⟩
                case rest =>
                  clear HC25
                  try clear c1
                  try clear c2
                  try clear p2
                  try clear c3
                  try clear c4
                  try clear c6
                  try clear c9
                  try clear c9b0
                  try clear c9b0z
                  try clear c9b1
                  try clear c9b1z
                  try clear c10
                  try clear c10b0
                  try clear c10b0z
                  try clear c10b1
                  try clear c10b1z
                  try clear c11
                  try clear c13
                  try clear c14
                  try clear c14b0
                  try clear c14b0z
                  try clear c22
                  try clear c23
                  try clear c24
                  try clear c25
                  try clear c26
                  try clear c43
                  try clear c43b0
                  try clear c43b0z
                  try clear c43b1
                  try clear c43b1z
                  try clear p2
                  obtain ⟨kq, x62_24, rfl, HA, HJ24, HO_9, HO_10, HB⟩ := hcut
                  cases kq with
                  | zero => exact absurd HA.out (by simp [shelfmarklaw01_PackBack.j1])
                  | succ kj24 =>
                    have H := HA.out
                    clear HA
                    simp only [shelfmarklaw01_PackBack.j1] at H
                    by_cases c44 : x62_24 = true
                    · subst c44
                      have H1 : (some false) = some r := by rw [if_pos rfl] at H; exact H
                      clear H
                      have H := H1
                      clear H1
                      obtain rfl := Option.some.inj H
                      go_wp2
                      go_ret
                      exact ⟨by first | rfl | (simp [errW_none, errW_some] <;> rfl) | (simp [*, errW_none, errW_some] <;> rfl), by repeat (first | (with_reducible first | exact HB.out | apply below_alloc | apply pw_below_drewN | apply below_drew1) | exact HB.out)⟩
                    · replace c44 := Bool.eq_false_iff.mpr c44
                      subst c44
                      have H1 : ((pack_GetText.f kj24 y459 t463 (a1.size : Int)).bind fun bt465 => (if bt465.1.toList = a1.toList then (shelfmarklaw01_PackBack.j2 kj24 l2 t450 y459 bt465.2.1 (bt465.2.2 != 0)) else (shelfmarklaw01_PackBack.j2 kj24 l2 t450 y459 bt465.2.1 true))) = some r := by rw [if_neg (show ¬ (false = true) by decide)] at H; exact H
                      clear H
                      have H := H1
                      clear H1
                      replace H := Option.bind_eq_some_iff.mp H
                      obtain ⟨⟨t465, t466, t467⟩, A450, H⟩ := H
                      replace H : (if t465.toList = a1.toList then (shelfmarklaw01_PackBack.j2 kj24 l2 t450 y459 t466 (t467 != 0)) else (shelfmarklaw01_PackBack.j2 kj24 l2 t450 y459 t466 true)) = some r := H
                      have A45 := Aside0.mk A450
                      clear A450
                      have HC46 := Aside0.mk H
                      clear H
                      go_upto_region 13 with (first | ((with_reducible refine gate_callee (f := 13) rfl ?_); refine goesL_ (some 68) rfl rfl Try.func13 (by kernel_rfl) rfl #[.slice Ao41 y459.length co41, .int .i64 t463, .int .i64 (a1.size : Int)] rfl (by (try simp only [List.map_toArray, List.map_cons, List.map_nil]); first | done | rfl | (simp only [List.length_drop, List.length_take]; rfl)) ?_; (with_reducible refine (pack_GetText.calls kj24 _ _ y459 t463 (a1.size : Int) t465 t466 t467 _ ?side1 ?side2 A45.out).mono ?_); (case side1 => repeat (first | exact (Kd.R_reads' HO_10.out).2.2 | (with_reducible refine Kd.C_alloc ?_ _) | (with_reducible refine Kd.C_drewN ?_ _) | (with_reducible refine Kd.C_drew ?_))); (case side2 => exact (Kd.R_reads' HO_10.out).2.1); rintro e w47 ⟨rfl, hb⟩; refine ⟨_, rfl, ?_⟩; have n0_ := Aside0.mk (Kd.R_below (by (with_reducible repeat (first | apply Kd.R_alloc | apply Kd.R_drewN | apply Kd.R_drew)); exact HO_9.out) hb); have n1_ := Aside0.mk (Kd.R_below (by (with_reducible repeat (first | apply Kd.R_alloc | apply Kd.R_drewN | apply Kd.R_drew)); exact HO_10.out) hb); have n2_ := Aside0.mk (below_step (by repeat (first | (with_reducible first | exact HB.out | apply below_alloc | apply pw_below_drewN | apply below_drew1) | exact HB.out)) hb); clear HO_9; clear HO_10; clear HB; have HO_9 := n0_; have HO_10 := n1_; have HB := n2_; clear n0_ n1_ n2_; (try clear hb); (try clear hb2); (try clear hk); (try clear hi)))
                      (try simp only [Act.put, List.setIfInBounds_toArray, List.set_cons_zero, List.set_cons_succ])
                      go_cut [78] (fun v78 wc => ∃ (kq : Nat) (x78_45 : Bool), v78 = .bool x78_45 ∧ Aside0 (shelfmarklaw01_PackBack.j2 kq l2 t450 y459 t466 x78_45 = some r) ∧ Aside0 (kq ≤ kj24) ∧ Aside0 (Kd.R (Kd.int .u8) 5 wc w.heap.size (fun k_ => some k_ ≠ ((.slice Ao41 y459.length co41) : Value).ownBlock) (.slice Ao39 t450.length co39) t450) ∧ Aside0 (Kd.R (Kd.int .u8) 5 wc w.heap.size (fun k_ => some k_ ≠ ((.slice Ao39 t450.length co39) : Value).ownBlock) (.slice Ao41 y459.length co41) y459) ∧ Aside0 (Below w.heap.size w wc))
                      case first =>
                        have H := HC46.out
                        clear HC46
                        by_cases c48 : t465.toList = a1.toList
                        · rw [if_pos c48] at H
                          have c48b0 : (t465.toList == a1.toList) = true := beq_iff_eq.mpr c48
                          have c48b1 : (t465.toList != a1.toList) = false := bne_eq_false_iff_eq.mpr c48
                          clear c48
                          (first | rw [c48b0] | (simp only [i64_w, i32_w]; rw [c48b0]) | skip)
                          have H' := Aside0.mk H
                          clear H
                          go_wp2
                          go_meet
                          case rel => exact ⟨_, ((t467 != 0)), (by first | rfl | (simp; done) | (simp [*]; done)), H', ⟨by have := HJ6.out; have := HJ24.out; first | omega | exact Nat.le_refl _⟩, ⟨by (with_reducible repeat (first | apply Kd.R_alloc | apply Kd.R_drewN | apply Kd.R_drew)); exact HO_9.out⟩, ⟨by (with_reducible repeat (first | apply Kd.R_alloc | apply Kd.R_drewN | apply Kd.R_drew)); exact HO_10.out⟩, ⟨by repeat (first | (with_reducible first | exact HB.out | apply below_alloc | apply pw_below_drewN | apply below_drew1) | exact HB.out)⟩⟩
                        · rw [if_neg c48] at H
                          have c48b0 : (t465.toList == a1.toList) = false := beq_eq_false_iff_ne.mpr c48
                          have c48b1 : (t465.toList != a1.toList) = true := bne_iff_ne.mpr c48
                          (first | rw [c48b0] | (simp only [i64_w, i32_w]; rw [c48b0]) | skip)
                          have H' := Aside0.mk H
                          clear H
                          go_wp2
                          go_meet
                          case rel => exact ⟨_, (true), (by first | rfl | (simp; done) | (simp [*]; done)), H', ⟨by have := HJ6.out; have := HJ24.out; first | omega | exact Nat.le_refl _⟩, ⟨by (with_reducible repeat (first | apply Kd.R_alloc | apply Kd.R_drewN | apply Kd.R_drew)); exact HO_9.out⟩, ⟨by (with_reducible repeat (first | apply Kd.R_alloc | apply Kd.R_drewN | apply Kd.R_drew)); exact HO_10.out⟩, ⟨by repeat (first | (with_reducible first | exact HB.out | apply below_alloc | apply pw_below_drewN | apply below_drew1) | exact HB.out)⟩⟩
                      case rest =>
                        clear HC46
                        try clear c1
                        try clear c2
                        try clear p2
                        try clear c3
                        try clear c4
                        try clear c6
                        try clear c9
                        try clear c9b0
                        try clear c9b0z
                        try clear c9b1
                        try clear c9b1z
                        try clear c10
                        try clear c10b0
                        try clear c10b0z
                        try clear c10b1
                        try clear c10b1z
                        try clear c11
                        try clear c13
                        try clear c14
                        try clear c14b0
                        try clear c14b0z
                        try clear c22
                        try clear c23
                        try clear c24
                        try clear c25
                        try clear c26
                        try clear c43
                        try clear c43b0
                        try clear c43b0z
                        try clear c43b1
                        try clear c43b1z
                        try clear c44
                        try clear c48
                        try clear c48b0
                        try clear c48b0z
                        try clear c48b1
                        try clear c48b1z
                        try clear p2
                        obtain ⟨kq, x78_45, rfl, HA, HJ45, HO_9, HO_10, HB⟩ := hcut
                        cases kq with
                        | zero => exact absurd HA.out (by simp [shelfmarklaw01_PackBack.j2])
                        | succ kj45 =>
                          have H := HA.out
                          clear HA
                          simp only [shelfmarklaw01_PackBack.j2] at H
                          by_cases c49 : x78_45 = true
                          · subst c49
                            have H1 : (some false) = some r := by rw [if_pos rfl] at H; exact H
                            clear H
                            have H := H1
                            clear H1
                            obtain rfl := Option.some.inj H
                            go_wp2
                            go_ret
                            exact ⟨by first | rfl | (simp [errW_none, errW_some] <;> rfl) | (simp [*, errW_none, errW_some] <;> rfl), by repeat (first | (with_reducible first | exact HB.out | apply below_alloc | apply pw_below_drewN | apply below_drew1) | exact HB.out)⟩
                          · replace c49 := Bool.eq_false_iff.mpr c49
                            subst c49
                            have H1 : ((pack_GetTexts.f kj45 y459 t466 (l2.length : Int) 3000).bind fun bt468 => (if bt468.2.2 = 0 then ((shelfmarkref01_SameTexts.f kj45 bt468.1 l2).bind fun t473 => (if t473 = true then (some (bt468.2.1 == (t450.length : Int))) else (some false))) else (some false))) = some r := by rw [if_neg (show ¬ (false = true) by decide)] at H; exact H
                            clear H
                            have H := H1
                            clear H1
                            replace H := Option.bind_eq_some_iff.mp H
                            obtain ⟨⟨t468, t469, t470⟩, A500, H⟩ := H
                            replace H : (if t470 = 0 then ((shelfmarkref01_SameTexts.f kj45 t468 l2).bind fun t473 => (if t473 = true then (some (t469 == (t450.length : Int))) else (some false))) else (some false)) = some r := H
                            have A50 := Aside0.mk A500
                            clear A500
                            by_cases c51 : t470 = 0
                            · rw [if_pos c51] at H
                              have c51b0 : (t470 == 0) = true := beq_iff_eq.mpr c51
                              have c51b1 : (t470 != 0) = false := bne_eq_false_iff_eq.mpr c51
                              clear c51
                              replace H := Option.bind_eq_some_iff.mp H
                              obtain ⟨t473, A520, H⟩ := H
                              replace H : (if t473 = true then (some (t469 == (t450.length : Int))) else (some false)) = some r := H
                              have A52 := Aside0.mk A520
                              clear A520
                              by_cases c53 : t473 = true
                              · subst c53
                                have H1 : (some (t469 == (t450.length : Int))) = some r := by rw [if_pos rfl] at H; exact H
                                clear H
                                have H := H1
                                clear H1
                                obtain rfl := Option.some.inj H
                                go_wp2_with (first | ((with_reducible refine gate_callee (f := 15) rfl ?_); refine goesL_ (some 84) rfl rfl Try.func15 (by kernel_rfl) rfl #[.slice Ao41 y459.length co41, .int .i64 t466, .int .i64 (l2.length : Int), .int .i64 3000] rfl (by (try simp only [List.map_toArray, List.map_cons, List.map_nil]); first | done | rfl | (simp only [List.length_drop, List.length_take]; rfl)) ?_; (with_reducible refine (pack_GetTexts.calls kj45 _ _ y459 t466 (l2.length : Int) 3000 t468 t469 t470 _ ?side1 ?side2 A50.out).mono ?_); (case side1 => repeat (first | exact (Kd.R_reads' HO_10.out).2.2 | (with_reducible refine Kd.C_alloc ?_ _) | (with_reducible refine Kd.C_drewN ?_ _) | (with_reducible refine Kd.C_drew ?_))); (case side2 => exact (Kd.R_reads' HO_10.out).2.1); rintro e w54 ⟨v471, rfl, ho0, hb⟩; refine ⟨_, rfl, ?_⟩; have n0_ := Aside0.mk (Kd.R_below (by (with_reducible repeat (first | apply Kd.R_alloc | apply Kd.R_drewN | apply Kd.R_drew)); exact HO_9.out) hb); have n1_ := Aside0.mk (Kd.R_below (by (with_reducible repeat (first | apply Kd.R_alloc | apply Kd.R_drewN | apply Kd.R_drew)); exact HO_10.out) hb); have n2_ := Aside0.mk (Kd.R_lower ho0 (below_size (by repeat (first | (with_reducible first | exact HB.out | apply below_alloc | apply pw_below_drewN | apply below_drew1) | exact HB.out)))); have n3_ := Aside0.mk (below_step (by repeat (first | (with_reducible first | exact HB.out | apply below_alloc | apply pw_below_drewN | apply below_drew1) | exact HB.out)) hb); clear HO_9; clear HO_10; clear HB; have HO_9 := n0_; have HO_10 := n1_; have HO472 := n2_; have HB := n3_; clear n0_ n1_ n2_ n3_; (try clear hb); (try clear hb2); (try clear hk); (try clear hi); (try clear ho0); obtain ⟨Ao55, co55, eo55⟩ := Kd.R_slice HO472.out; subst eo55) | (go_at_call 17; (with_reducible refine (shelfmarkref01_SameTexts.calls kj45 _ _ t468 _ _ l2 true _ ?side1 ?side2 ?side3 ?side4 A52.out).mono ?_); (case side1 => repeat (first | exact (Kd.R_reads' HO472.out).2.2 | (with_reducible refine Kd.C_alloc ?_ _) | (with_reducible refine Kd.C_drewN ?_ _) | (with_reducible refine Kd.C_drew ?_))); (case side2 => exact (Kd.R_reads' HO472.out).2.1); (case side3 => repeat (first | exact (Kd.C_below HR2.out HB.out) | (with_reducible refine Kd.C_alloc ?_ _) | (with_reducible refine Kd.C_drewN ?_ _) | (with_reducible refine Kd.C_drew ?_))); (case side4 => exact HC2.out); rintro e w' ⟨rfl, ⟨nd, rfl⟩⟩))
                                go_ret
                                exact ⟨by first | rfl | (simp [errW_none, errW_some] <;> rfl) | (simp [*, errW_none, errW_some] <;> rfl), by repeat (first | (with_reducible first | exact HB.out | apply below_alloc | apply pw_below_drewN | apply below_drew1) | exact HB.out)⟩
                              · replace c53 := Bool.eq_false_iff.mpr c53
                                subst c53
                                have H1 : (some false) = some r := by rw [if_neg (show ¬ (false = true) by decide)] at H; exact H
                                clear H
                                have H := H1
                                clear H1
                                obtain rfl := Option.some.inj H
                                go_wp2_with (first | ((with_reducible refine gate_callee (f := 15) rfl ?_); refine goesL_ (some 84) rfl rfl Try.func15 (by kernel_rfl) rfl #[.slice Ao41 y459.length co41, .int .i64 t466, .int .i64 (l2.length : Int), .int .i64 3000] rfl (by (try simp only [List.map_toArray, List.map_cons, List.map_nil]); first | done | rfl | (simp only [List.length_drop, List.length_take]; rfl)) ?_; (with_reducible refine (pack_GetTexts.calls kj45 _ _ y459 t466 (l2.length : Int) 3000 t468 t469 t470 _ ?side1 ?side2 A50.out).mono ?_); (case side1 => repeat (first | exact (Kd.R_reads' HO_10.out).2.2 | (with_reducible refine Kd.C_alloc ?_ _) | (with_reducible refine Kd.C_drewN ?_ _) | (with_reducible refine Kd.C_drew ?_))); (case side2 => exact (Kd.R_reads' HO_10.out).2.1); rintro e w56 ⟨v471, rfl, ho0, hb⟩; refine ⟨_, rfl, ?_⟩; have n0_ := Aside0.mk (Kd.R_below (by (with_reducible repeat (first | apply Kd.R_alloc | apply Kd.R_drewN | apply Kd.R_drew)); exact HO_9.out) hb); have n1_ := Aside0.mk (Kd.R_below (by (with_reducible repeat (first | apply Kd.R_alloc | apply Kd.R_drewN | apply Kd.R_drew)); exact HO_10.out) hb); have n2_ := Aside0.mk (Kd.R_lower ho0 (below_size (by repeat (first | (with_reducible first | exact HB.out | apply below_alloc | apply pw_below_drewN | apply below_drew1) | exact HB.out)))); have n3_ := Aside0.mk (below_step (by repeat (first | (with_reducible first | exact HB.out | apply below_alloc | apply pw_below_drewN | apply below_drew1) | exact HB.out)) hb); clear HO_9; clear HO_10; clear HB; have HO_9 := n0_; have HO_10 := n1_; have HO472 := n2_; have HB := n3_; clear n0_ n1_ n2_ n3_; (try clear hb); (try clear hb2); (try clear hk); (try clear hi); (try clear ho0); obtain ⟨Ao57, co57, eo57⟩ := Kd.R_slice HO472.out; subst eo57) | (go_at_call 17; (with_reducible refine (shelfmarkref01_SameTexts.calls kj45 _ _ t468 _ _ l2 false _ ?side1 ?side2 ?side3 ?side4 A52.out).mono ?_); (case side1 => repeat (first | exact (Kd.R_reads' HO472.out).2.2 | (with_reducible refine Kd.C_alloc ?_ _) | (with_reducible refine Kd.C_drewN ?_ _) | (with_reducible refine Kd.C_drew ?_))); (case side2 => exact (Kd.R_reads' HO472.out).2.1); (case side3 => repeat (first | exact (Kd.C_below HR2.out HB.out) | (with_reducible refine Kd.C_alloc ?_ _) | (with_reducible refine Kd.C_drewN ?_ _) | (with_reducible refine Kd.C_drew ?_))); (case side4 => exact HC2.out); rintro e w' ⟨rfl, ⟨nd, rfl⟩⟩))
                                go_ret
                                exact ⟨by first | rfl | (simp [errW_none, errW_some] <;> rfl) | (simp [*, errW_none, errW_some] <;> rfl), by repeat (first | (with_reducible first | exact HB.out | apply below_alloc | apply pw_below_drewN | apply below_drew1) | exact HB.out)⟩
                            · rw [if_neg c51] at H
                              have c51b0 : (t470 == 0) = false := beq_eq_false_iff_ne.mpr c51
                              have c51b1 : (t470 != 0) = true := bne_iff_ne.mpr c51
                              obtain rfl := Option.some.inj H
                              go_wp2_with (first | ((with_reducible refine gate_callee (f := 15) rfl ?_); refine goesL_ (some 84) rfl rfl Try.func15 (by kernel_rfl) rfl #[.slice Ao41 y459.length co41, .int .i64 t466, .int .i64 (l2.length : Int), .int .i64 3000] rfl (by (try simp only [List.map_toArray, List.map_cons, List.map_nil]); first | done | rfl | (simp only [List.length_drop, List.length_take]; rfl)) ?_; (with_reducible refine (pack_GetTexts.calls kj45 _ _ y459 t466 (l2.length : Int) 3000 t468 t469 t470 _ ?side1 ?side2 A50.out).mono ?_); (case side1 => repeat (first | exact (Kd.R_reads' HO_10.out).2.2 | (with_reducible refine Kd.C_alloc ?_ _) | (with_reducible refine Kd.C_drewN ?_ _) | (with_reducible refine Kd.C_drew ?_))); (case side2 => exact (Kd.R_reads' HO_10.out).2.1); rintro e w58 ⟨v471, rfl, ho0, hb⟩; refine ⟨_, rfl, ?_⟩; have n0_ := Aside0.mk (Kd.R_below (by (with_reducible repeat (first | apply Kd.R_alloc | apply Kd.R_drewN | apply Kd.R_drew)); exact HO_9.out) hb); have n1_ := Aside0.mk (Kd.R_below (by (with_reducible repeat (first | apply Kd.R_alloc | apply Kd.R_drewN | apply Kd.R_drew)); exact HO_10.out) hb); have n2_ := Aside0.mk (Kd.R_lower ho0 (below_size (by repeat (first | (with_reducible first | exact HB.out | apply below_alloc | apply pw_below_drewN | apply below_drew1) | exact HB.out)))); have n3_ := Aside0.mk (below_step (by repeat (first | (with_reducible first | exact HB.out | apply below_alloc | apply pw_below_drewN | apply below_drew1) | exact HB.out)) hb); clear HO_9; clear HO_10; clear HB; have HO_9 := n0_; have HO_10 := n1_; have HO472 := n2_; have HB := n3_; clear n0_ n1_ n2_ n3_; (try clear hb); (try clear hb2); (try clear hk); (try clear hi); (try clear ho0)))
                              go_ret
                              exact ⟨by first | rfl | (simp [errW_none, errW_some] <;> rfl) | (simp [*, errW_none, errW_some] <;> rfl), by repeat (first | (with_reducible first | exact HB.out | apply below_alloc | apply pw_below_drewN | apply below_drew1) | exact HB.out)⟩
              · rw [if_neg c23] at H
                exact absurd H (by simp)
            · rw [if_neg c22] at H
              exact absurd H (by simp)
  · replace c6 := Bool.eq_false_iff.mpr c6
    subst c6
    have H1 : (some false) = some r := by rw [if_neg (show ¬ (false = true) by decide)] at H; exact H
    clear H
    have H := H1
    clear H1
    obtain rfl := Option.some.inj H
    go_enter Try.func9, Try.ntmps9
    go_wp2_with (first | ((with_reducible refine gate_callee (f := 10) rfl ?_); refine goesL_ (some 16) rfl rfl Try.func10 (by kernel_rfl) rfl #[] rfl (by (try simp only [List.map_toArray, List.map_cons, List.map_nil]); first | done | rfl | (simp only [List.length_drop, List.length_take]; rfl)) ?_; (with_reducible refine (shelfmarklaw01_awake.calls k  false _ A5.out).mono ?_); rintro e w59 ⟨rfl, hb⟩; refine ⟨_, rfl, ?_⟩; have n0_ := Aside0.mk (below_step (by repeat (first | (with_reducible first | exact HB.out | apply below_alloc | apply pw_below_drewN | apply below_drew1) | exact HB.out)) hb); clear HB; have HB := n0_; clear n0_; (try clear hb); (try clear hb2); (try clear hk); (try clear hi)))
    go_ret
    exact ⟨by first | rfl | (simp [errW_none, errW_some] <;> rfl) | (simp [*, errW_none, errW_some] <;> rfl), by repeat (first | (with_reducible first | exact HB.out | apply below_alloc | apply pw_below_drewN | apply below_drew1) | exact HB.out)⟩

end Go.Proofs.Ytdbikehjcmhjjaa.PAll
