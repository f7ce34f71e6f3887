-- Written by a program of this session for this claim (mp.py, over the kit's print); Lean checks it.
import Derived.Test.YtkkfkccfnfjbiaaPAllx0
namespace Go.Proofs.Ytkkfkccfnfjbiaa.PAll
open Go.RowKit Go.Proofs.YtkkfkccfnfjbiaaW.PrintWords Go.Proofs.YtkkfkccfnfjbiaaW.PrintLast Go.Proofs.YtkkfkccfnfjbiaaW.PrintMore Go.Proofs.Ytkkfkccfnfjbiaa.Fv Go.Proofs.Ytkkfkccfnfjbiaa.Hl
attribute [local go_sem] max2_int min2_int max_two min_two max_three min_three max_four min_four str_gtr str_leq str_geq cell_set2   -- for this text's walks alone
set_option linter.unusedVariables false
set_option linter.unusedSimpArgs false

/-! ### shelfmarkref09_Right: function 29 -/
mutual
def shelfmarkref09_Right.l0 : Nat → List (S37) → Int → Option (Bool)
 | 0, _, _ => none
 | k + 1, x0, x3 => if x3 < (x0.length : Int) then (if 0 ≤ x3 then (if (rd_T37 x0 x3).f2 = true then (shelfmarkref09_Right.j1 k x0 x3 (((rd_T37 x0 x3).f1).toList != ([] : List UInt8))) else (shelfmarkref09_Right.j1 k x0 x3 false)) else (none)) else (some true)
def shelfmarkref09_Right.j1 : Nat → List (S37) → Int → Bool → Option (Bool)
 | 0, _, _, _ => none
 | k + 1, x0, x3, x22 => if x22 = true then (some false) else (if x3 > 0 then (if 0 ≤ x3 then (if x3 < (x0.length : Int) then (if 0 ≤ (wrap64 (x3 - 1)) then (if (wrap64 (x3 - 1)) < (x0.length : Int) then (if ((Op.bytesLess (((rd_T37 x0 (wrap64 (x3 - 1))).f0).toList) (((rd_T37 x0 x3).f0).toList)) = true) then (shelfmarkref09_Right.l0 k x0 (wrap64 (x3 + 1))) else (some false)) else (none)) else (none)) else (none)) else (none)) else (shelfmarkref09_Right.l0 k x0 (wrap64 (x3 + 1))))
end
def shelfmarkref09_Right.f (k : Nat) (l0 : List (S37)) : Option (Bool) := shelfmarkref09_Right.l0 k l0 0
theorem shelfmarkref09_Right.mono_l : ∀ k, (∀ y0 y1, LeO (shelfmarkref09_Right.l0 k y0 y1) (shelfmarkref09_Right.l0 (k + 1) y0 y1)) ∧ (∀ y0 y1 y2, LeO (shelfmarkref09_Right.j1 k y0 y1 y2) (shelfmarkref09_Right.j1 (k + 1) y0 y1 y2))
 | 0 => ⟨fun _ _ r h => by simp [shelfmarkref09_Right.l0] at h, fun _ _ _ r h => by simp [shelfmarkref09_Right.j1] at h⟩
 | k + 1 => by
  obtain ⟨ih0, ih1⟩ := shelfmarkref09_Right.mono_l k
  refine ⟨?_, ?_⟩
  ·intro y0 y1
   unfold shelfmarkref09_Right.l0
   repeat' first
   | (with_reducible exact ih0 _ _)
   | (with_reducible exact ih1 _ _ _)
   | (with_reducible exact LeO.refl _)
   | (with_reducible exact LeO.none _)
   | (with_reducible refine LeO.ite ?_ ?_)
   | (with_reducible refine LeO.bind ?_ (fun _ => ?_))
   | exact ih0 _ _
   | exact ih1 _ _ _
   | exact LeO.none _
   | refine LeO.ite ?_ ?_
   | refine LeO.bind ?_ (fun _ => ?_)
  ·intro y0 y1 y2
   unfold shelfmarkref09_Right.j1
   repeat' first
   | (with_reducible exact ih0 _ _)
   | (with_reducible exact ih1 _ _ _)
   | (with_reducible exact LeO.refl _)
   | (with_reducible exact LeO.none _)
   | (with_reducible refine LeO.ite ?_ ?_)
   | (with_reducible refine LeO.bind ?_ (fun _ => ?_))
   | exact ih0 _ _
   | exact ih1 _ _ _
   | exact LeO.none _
   | refine LeO.ite ?_ ?_
   | refine LeO.bind ?_ (fun _ => ?_)
theorem shelfmarkref09_Right.mono : ∀ a0 k, LeO (shelfmarkref09_Right.f k a0) (shelfmarkref09_Right.f (k + 1) a0) := by
 intro a0 k
 obtain ⟨ih0, ih1⟩ := shelfmarkref09_Right.mono_l k
 unfold shelfmarkref09_Right.f
 repeat' first
   | (with_reducible exact ih0 _ _)
   | (with_reducible exact ih1 _ _ _)
   | (with_reducible exact LeO.refl _)
   | (with_reducible exact LeO.none _)
   | (with_reducible refine LeO.ite ?_ ?_)
   | (with_reducible refine LeO.bind ?_ (fun _ => ?_))
   | exact ih0 _ _
   | exact ih1 _ _ _
   | exact LeO.none _
   | refine LeO.ite ?_ ?_
   | refine LeO.bind ?_ (fun _ => ?_)
set_option maxHeartbeats 8000000 in
set_option maxRecDepth 100000 in
theorem shelfmarkref09_Right.calls (k : Nat) (A0 : Option Addr) (c0 : Nat) (l0 : List (S37)) (r : Bool) (w : World) (hr0 : Kd.C k37 w A0 l0.length l0) (hc0 : l0.length ≤ c0) (h : shelfmarkref09_Right.f k l0 = some r) :
  Calls Try.prog 29 #[.slice A0 l0.length c0] w fun e w' => e = .returned (.bool r) ∧ Drawn0 w w' := by
 have HR0 := Aside0.mk hr0
 have HC0 := Aside0.mk hc0
 clear hr0 hc0
 have H : (shelfmarkref09_Right.l0 k l0 0) = some r := h
 clear h
 have H' := Aside0.mk H
 clear H
 go_enter Try.func29, Try.ntmps29
 go_wp2
 repeat (go_quiet (fail); try go_wp2)
 go_loopg [3] k (fun kq v3 w' => ∃ (x3_1 : Int), v3 = .int .i64 x3_1 ∧ Aside0 (shelfmarkref09_Right.l0 kq l0 x3_1 = some r) ∧ Aside0 (kq ≤ k) ∧ Drawn0 w w')
 case atStart => exact ⟨(0), (by first | rfl | (simp; done) | (simp [*]; done) | (simp [ne_nil_bytes]; done) | (simp [eq_nil_bytes]; done)), H', ⟨Nat.le_refl _⟩, by repeat (first | exact Drawn0.refl _ | apply Drawn0.step)⟩
 clear H'
 obtain ⟨x3_1, rfl, HA, HK1, ⟨m1, rfl⟩⟩ := hrel
 rcases gk with _ | k1
 ·exact absurd HA.out (by simp [shelfmarkref09_Right.l0])
 have H := HA.out
 clear HA
 simp only [shelfmarkref09_Right.l0] at H
 by_cases c2 : x3_1 < (l0.length : Int)
 rotate_left
 ·rw [if_neg c2] at H
  have c2b0 : decide (x3_1 < (l0.length : Int)) = false := decide_eq_false c2
  clear c2
  obtain rfl := Option.some.inj H
  simp only [Option.some.injEq, Prod.mk.injEq] at H
  obtain ⟨rfl⟩ := H
  go_wp2
  repeat (go_quiet (fail); try go_wp2)
  go_ret
  exact ⟨by first | rfl | (simp; done) | (simp [*]; done), by repeat (first | exact Drawn0.refl _ | apply Drawn0.step)⟩
 rw [if_pos c2] at H
 have c2b0 : decide (x3_1 < (l0.length : Int)) = true := decide_eq_true c2
 clear c2
 have HC3 := Aside0.mk H
 clear H
 go_upto_region 4 with (fail)
 repeat (go_quiet (fail); go_upto_region 4 with (fail))
 go_cut [22] (fun v22 wc => ∃ (kq : Nat) (x22_2 : Bool), v22 = .bool x22_2 ∧ Aside0 (shelfmarkref09_Right.j1 kq l0 x3_1 x22_2 = some r) ∧ Aside0 (kq ≤ k1) ∧ Drawn0 w wc)
 case first =>
  have H := HC3.out
  clear HC3
  by_cases c4 : 0 ≤ x3_1
  rotate_left
  ·rw [if_neg c4] at H
   exact absurd H (by simp)
  rw [if_pos c4] at H
  have c4b0 : decide (0 ≤ x3_1) = true := decide_eq_true c4
  clear c4
  (first | rw [c4b0] | (simp only [i64_w, i32_w]; rw [c4b0]) | skip)
  obtain ⟨bq5, hbq5⟩ : ∃ b_ : Bool, b_ = ((rd_T37 l0 x3_1).f2) := ⟨_, rfl⟩
  replace H : (if bq5 = true then (shelfmarkref09_Right.j1 k1 l0 x3_1 (((rd_T37 l0 x3_1).f1).toList != ([] : List UInt8))) else (shelfmarkref09_Right.j1 k1 l0 x3_1 false)) = some r := by rw [← hbq5] at H; exact H
  have Nbq5 := Aside0.mk hbq5
  clear hbq5
  by_cases c6 : bq5 = true
  rotate_left
  ·replace c6 := Bool.eq_false_iff.mpr c6
   subst c6
   have H1 : (shelfmarkref09_Right.j1 k1 l0 x3_1 false) = some r := by rw [if_neg (show ¬ (false = true) by decide)] at H; exact H
   clear H
   have H := H1
   clear H1
   have H' := Aside0.mk H
   clear H
   have p189 : 0 ≤ (x3_1 : Int) := of_decide_eq_true (by first | (with_reducible assumption) | assumption)
   have q189 : x3_1 < (l0.length : Int) := of_decide_eq_true (by first | (with_reducible assumption) | assumption)
   obtain ⟨ad189, e189, hx189_0, hx189_1, hx189_2⟩ := at_T37 HR0.out x3_1 p189 q189
   (try rw [← Nbq5.out] at hx189_2)
   cases e189
   replace p189 := eq_true p189
   replace q189 := eq_true q189
   go_wp2
   repeat (go_quiet (fail); try go_wp2)
   go_meet
   case rel => (first | exact ⟨_, (false), (by first | rfl | (simp; done) | (simp [*]; done) | (simp [ne_nil_bytes]; done) | (simp [eq_nil_bytes]; done)), H', ⟨by have := HK1.out; first | omega | exact Nat.le_refl _⟩, by repeat (first | exact Drawn0.refl _ | apply Drawn0.step)⟩ | ((try rw [← Nbq5.out]); exact ⟨_, (false), (by first | rfl | (simp; done) | (simp [*]; done) | (simp [ne_nil_bytes]; done) | (simp [eq_nil_bytes]; done)), H', ⟨by have := HK1.out; first | omega | exact Nat.le_refl _⟩, by repeat (first | exact Drawn0.refl _ | apply Drawn0.step)⟩))
  subst c6
  have H1 : (shelfmarkref09_Right.j1 k1 l0 x3_1 (((rd_T37 l0 x3_1).f1).toList != ([] : List UInt8))) = some r := by rw [if_pos rfl] at H; exact H
  clear H
  have H := H1
  clear H1
  have H' := Aside0.mk H
  clear H
  have p189 : 0 ≤ (x3_1 : Int) := of_decide_eq_true (by first | (with_reducible assumption) | assumption)
  have q189 : x3_1 < (l0.length : Int) := of_decide_eq_true (by first | (with_reducible assumption) | assumption)
  obtain ⟨ad189, e189, hx189_0, hx189_1, hx189_2⟩ := at_T37 HR0.out x3_1 p189 q189
  (try rw [← Nbq5.out] at hx189_2)
  cases e189
  replace p189 := eq_true p189
  replace q189 := eq_true q189
  have p190 : 0 ≤ (x3_1 : Int) := of_decide_eq_true (by first | (with_reducible assumption) | assumption)
  have q190 : x3_1 < (l0.length : Int) := of_decide_eq_true (by first | (with_reducible assumption) | assumption)
  obtain ⟨ad190, e190, hx190_0, hx190_1, hx190_2⟩ := at_T37 HR0.out x3_1 p190 q190
  (try rw [← Nbq5.out] at hx190_2)
  obtain rfl : ad189 = ad190 := (by injection e190)
  replace p190 := eq_true p190
  replace q190 := eq_true q190
  go_wp2
  repeat (go_quiet (fail); try go_wp2)
  go_meet
  case rel => (first | exact ⟨_, ((((rd_T37 l0 x3_1).f1).toList != ([] : List UInt8))), (by first | rfl | (simp; done) | (simp [*]; done) | (simp [ne_nil_bytes]; done) | (simp [eq_nil_bytes]; done)), H', ⟨by have := HK1.out; first | omega | exact Nat.le_refl _⟩, by repeat (first | exact Drawn0.refl _ | apply Drawn0.step)⟩ | ((try rw [← Nbq5.out]); exact ⟨_, ((((rd_T37 l0 x3_1).f1).toList != ([] : List UInt8))), (by first | rfl | (simp; done) | (simp [*]; done) | (simp [ne_nil_bytes]; done) | (simp [eq_nil_bytes]; done)), H', ⟨by have := HK1.out; first | omega | exact Nat.le_refl _⟩, by repeat (first | exact Drawn0.refl _ | apply Drawn0.step)⟩))
 clear HC3
 try clear p1
 try clear q1
 try clear hx1
 try clear c2
 try clear c2b0
 try clear c2b0z
 try clear p2
 try clear c4
 try clear c4b0
 try clear c4b0z
 try clear q5
 try clear c6
 try clear hx189_0
 try clear hx189_1
 try clear hx189_2
 try clear hx190_0
 try clear hx190_1
 try clear hx190_2
 try clear p189
 try clear p190
 try clear q189
 try clear q190
 obtain ⟨kq, x22_2, rfl, HA, HJ2, ⟨mc2, rfl⟩⟩ := hcut
 rcases kq with _ | kj2
 ·exact absurd HA.out (by simp [shelfmarkref09_Right.j1])
 have H := HA.out
 clear HA
 simp only [shelfmarkref09_Right.j1] at H
 by_cases c7 : x22_2 = true
 ·subst c7
  have H1 : (some false) = some r := by rw [if_pos rfl] at H; exact H
  clear H
  have H := H1
  clear H1
  obtain rfl := Option.some.inj H
  simp only [Option.some.injEq, Prod.mk.injEq] at H
  obtain ⟨rfl⟩ := H
  go_wp2
  repeat (go_quiet (fail); try go_wp2)
  go_ret
  exact ⟨by first | rfl | (simp; done) | (simp [*]; done), by repeat (first | exact Drawn0.refl _ | apply Drawn0.step)⟩
 replace c7 := Bool.eq_false_iff.mpr c7
 subst c7
 have H1 : (if x3_1 > 0 then (if 0 ≤ x3_1 then (if x3_1 < (l0.length : Int) then (if 0 ≤ (wrap64 (x3_1 - 1)) then (if (wrap64 (x3_1 - 1)) < (l0.length : Int) then (if ((Op.bytesLess (((rd_T37 l0 (wrap64 (x3_1 - 1))).f0).toList) (((rd_T37 l0 x3_1).f0).toList)) = true) then (shelfmarkref09_Right.l0 kj2 l0 (wrap64 (x3_1 + 1))) else (some false)) else (none)) else (none)) else (none)) else (none)) else (shelfmarkref09_Right.l0 kj2 l0 (wrap64 (x3_1 + 1)))) = some r := by rw [if_neg (show ¬ (false = true) by decide)] at H; exact H
 clear H
 have H := H1
 clear H1
 by_cases c8 : x3_1 > 0
 rotate_left
 ·rw [if_neg c8] at H
  have c8b0 : decide (0 < x3_1) = false := decide_eq_false c8
  clear c8
  have H' := Aside0.mk H
  clear H
  go_wp2
  repeat (go_quiet (fail); try go_wp2)
  go_roundg kj2
  case measure => have := HK1.out; have := HJ2.out; omega
  case rel => exact ⟨(wrap64 (x3_1 + 1)), (by first | rfl | (simp; done) | (simp [*]; done) | (simp [ne_nil_bytes]; done) | (simp [eq_nil_bytes]; done)), H', ⟨by have := HK1.out; have := HJ2.out; omega⟩, by repeat (first | exact Drawn0.refl _ | apply Drawn0.step)⟩
 rw [if_pos c8] at H
 have c8b0 : decide (0 < x3_1) = true := decide_eq_true c8
 clear c8
 by_cases c9 : 0 ≤ x3_1
 rotate_left
 ·rw [if_neg c9] at H
  exact absurd H (by simp)
 rw [if_pos c9] at H
 have c9b0 : decide (0 ≤ x3_1) = true := decide_eq_true c9
 clear c9
 by_cases c10 : x3_1 < (l0.length : Int)
 rotate_left
 ·rw [if_neg c10] at H
  exact absurd H (by simp)
 rw [if_pos c10] at H
 have c10b0 : decide (x3_1 < (l0.length : Int)) = true := decide_eq_true c10
 clear c10
 obtain ⟨ji11, hji11⟩ : ∃ j_ : Int, (wrap64 (x3_1 - 1)) = j_ := ⟨_, rfl⟩
 replace H : (if 0 ≤ (ji11) then (if (ji11) < (l0.length : Int) then (if ((Op.bytesLess (((rd_T37 l0 (ji11)).f0).toList) (((rd_T37 l0 x3_1).f0).toList)) = true) then (shelfmarkref09_Right.l0 kj2 l0 (wrap64 (x3_1 + 1))) else (some false)) else (none)) else (none)) = some r := by first | (rw [hji11] at H; exact H) | (simp only [hji11] at H ⊢; exact H)
 have hji11w : (IntKind.i64.wrap (x3_1 - 1)) = ji11 := (i64_w _).trans hji11
 by_cases c12 : 0 ≤ (ji11)
 rotate_left
 ·rw [if_neg c12] at H
  exact absurd H (by simp)
 rw [if_pos c12] at H
 have c12b0 : decide (0 ≤ (ji11)) = true := decide_eq_true c12
 clear c12
 by_cases c13 : (ji11) < (l0.length : Int)
 rotate_left
 ·rw [if_neg c13] at H
  exact absurd H (by simp)
 rw [if_pos c13] at H
 have c13b0 : decide ((ji11) < (l0.length : Int)) = true := decide_eq_true c13
 clear c13
 by_cases c14 : ((Op.bytesLess (((rd_T37 l0 (ji11)).f0).toList) (((rd_T37 l0 x3_1).f0).toList)) = true)
 rotate_left
 ·rw [if_neg c14] at H
  have c14b0 : (Op.bytesLess (((rd_T37 l0 (ji11)).f0).toList) (((rd_T37 l0 x3_1).f0).toList)) = false := by simpa using c14
  clear c14
  obtain rfl := Option.some.inj H
  simp only [Option.some.injEq, Prod.mk.injEq] at H
  obtain ⟨rfl⟩ := H
  have p191 : 0 ≤ (x3_1 : Int) := of_decide_eq_true (by first | (with_reducible assumption) | assumption)
  have q191 : x3_1 < (l0.length : Int) := of_decide_eq_true (by first | (with_reducible assumption) | assumption)
  obtain ⟨ad191, e191, hx191_0, hx191_1, hx191_2⟩ := at_T37 HR0.out x3_1 p191 q191
  cases e191
  replace p191 := eq_true p191
  replace q191 := eq_true q191
  have p192 : 0 ≤ ((ji11) : Int) := of_decide_eq_true (by first | (with_reducible assumption) | assumption)
  have q192 : (ji11) < (l0.length : Int) := of_decide_eq_true (by first | (with_reducible assumption) | assumption)
  obtain ⟨ad192, e192, hx192_0, hx192_1, hx192_2⟩ := at_T37 HR0.out (ji11) p192 q192
  obtain rfl : ad191 = ad192 := (by injection e192)
  replace p192 := eq_true p192
  replace q192 := eq_true q192
  go_wp2
  repeat (go_quiet (fail); try go_wp2)
  go_ret
  exact ⟨by first | rfl | (simp; done) | (simp only [← hji11] <;> (first | rfl | simp)) | (simp [*]; done), by repeat (first | exact Drawn0.refl _ | apply Drawn0.step)⟩
 rw [if_pos c14] at H
 have c14b0 : (Op.bytesLess (((rd_T37 l0 (ji11)).f0).toList) (((rd_T37 l0 x3_1).f0).toList)) = true := c14
 clear c14
 have H' := Aside0.mk H
 clear H
 have p191 : 0 ≤ (x3_1 : Int) := of_decide_eq_true (by first | (with_reducible assumption) | assumption)
 have q191 : x3_1 < (l0.length : Int) := of_decide_eq_true (by first | (with_reducible assumption) | assumption)
 obtain ⟨ad191, e191, hx191_0, hx191_1, hx191_2⟩ := at_T37 HR0.out x3_1 p191 q191
 cases e191
 replace p191 := eq_true p191
 replace q191 := eq_true q191
 have p192 : 0 ≤ ((ji11) : Int) := of_decide_eq_true (by first | (with_reducible assumption) | assumption)
 have q192 : (ji11) < (l0.length : Int) := of_decide_eq_true (by first | (with_reducible assumption) | assumption)
 obtain ⟨ad192, e192, hx192_0, hx192_1, hx192_2⟩ := at_T37 HR0.out (ji11) p192 q192
 obtain rfl : ad191 = ad192 := (by injection e192)
 replace p192 := eq_true p192
 replace q192 := eq_true q192
 go_wp2
 repeat (go_quiet (fail); try go_wp2)
 go_roundg kj2
 case measure => have := HK1.out; have := HJ2.out; omega
 case rel => exact ⟨(wrap64 (x3_1 + 1)), (by first | rfl | (simp; done) | (simp [*]; done) | (simp [ne_nil_bytes]; done) | (simp [eq_nil_bytes]; done)), H', ⟨by have := HK1.out; have := HJ2.out; omega⟩, by repeat (first | exact Drawn0.refl _ | apply Drawn0.step)⟩

/-! ### shelfmarkref01_Num: function 39 -/
def shelfmarkref01_Num.f : Nat → Int → Option (List Int)
 | 0, _ => none
 | k + 1, a0 => if a0 < 0 then (some ([] : List Int)) else (if a0 < 128 then (some (([(a0) % 256] : List Int))) else ((some (([(wrap64 (128 + (Int.tmod a0 128))) % 256] : List Int) : List Int)).bind fun y196 => ((shelfmarkref01_Num.f k (wrap64 (Int.tdiv a0 128))).bind fun t199 => (if y196.length + t199.length < 140737488355328 then (some (y196 ++ t199)) else (none)))))
theorem shelfmarkref01_Num.mono_l : ∀ k, (∀ y0, LeO (shelfmarkref01_Num.f k y0) (shelfmarkref01_Num.f (k + 1) y0))
 | 0 => fun _ r h => by simp [shelfmarkref01_Num.f] at h
 | k + 1 => by
  have ih0 := shelfmarkref01_Num.mono_l k
  ·intro y0
   unfold shelfmarkref01_Num.f
   repeat' first
   | (with_reducible exact ih0 _)
   | (with_reducible exact LeO.refl _)
   | (with_reducible exact LeO.none _)
   | (with_reducible refine LeO.ite ?_ ?_)
   | (with_reducible refine LeO.bind ?_ (fun _ => ?_))
   | exact ih0 _
   | exact LeO.none _
   | refine LeO.ite ?_ ?_
   | refine LeO.bind ?_ (fun _ => ?_)
theorem shelfmarkref01_Num.mono : ∀ a0 k, LeO (shelfmarkref01_Num.f k a0) (shelfmarkref01_Num.f (k + 1) a0) := by
 intro a0 k
 have ih0 := shelfmarkref01_Num.mono_l k
 exact ih0 a0
set_option maxHeartbeats 8000000 in
set_option maxRecDepth 100000 in
theorem shelfmarkref01_Num.calls (k : Nat) : ∀ (a0 : Int) (r : List Int) (w : World) (h : shelfmarkref01_Num.f k a0 = some r),
  Calls Try.prog 39 #[.int .i64 a0] w fun e w' => ∃ v0_ : Value, e = .returned (v0_) ∧ Kd.R (Kd.int .u8) 5 w' w.heap.size (fun _ => True) v0_ r ∧ Below w.heap.size w w' := by
 induction k using Nat.strongRecOn with
 | _ k ih =>
 intro a0 r w h
 cases k with
 | zero => exact absurd h (by simp [shelfmarkref01_Num.f])
 | succ k =>
 simp only [shelfmarkref01_Num.f] at h
 have HB := Aside0.mk (Below.refl w.heap.size w)
 have H : (if a0 < 0 then (some ([] : List Int)) else (if a0 < 128 then (some (([(a0) % 256] : List Int))) else ((some (([(wrap64 (128 + (Int.tmod a0 128))) % 256] : List Int) : List Int)).bind fun y196 => ((shelfmarkref01_Num.f k (wrap64 (Int.tdiv a0 128))).bind fun t199 => (if y196.length + t199.length < 140737488355328 then (some (y196 ++ t199)) else (none)))))) = some r := h
 clear h
 by_cases c2 : a0 < 0
 ·rw [if_pos c2] at H
  have c2b0 : decide (a0 < 0) = true := decide_eq_true c2
  clear c2
  obtain rfl := Option.some.inj H
  simp only [Option.some.injEq, Prod.mk.injEq] at H
  obtain ⟨rfl⟩ := H
  go_enter Try.func39, Try.ntmps39
  go_wp2
  go_ret
  exact ⟨_, by first | rfl | (simp [errW_none, errW_some] <;> rfl) | (simp [*, errW_none, errW_some] <;> rfl), by first | exact Kd.R_nil _ _ _ _ _ | exact Kd.N_nil _ _ _ _ _ | exact Kd.V_nil _ _ _ _ _ | exact Kd.Q_nil _ _ _ _ _ | exact Kd.S_nil _ _ _ _ _, hL HB.out⟩
 rw [if_neg c2] at H
 have c2b0 : decide (a0 < 0) = false := decide_eq_false c2
 clear c2
 by_cases c3 : a0 < 128
 ·rw [if_pos c3] at H
  have c3b0 : decide (a0 < 128) = true := decide_eq_true c3
  clear c3
  obtain ⟨y193, hy193⟩ : ∃ y_ : List Int, y_ = (([(a0) % 256] : List Int)) := ⟨_, rfl⟩
  replace H : (some y193) = some r := by first | (rw [hy193]; with_reducible exact H) | (have H2_ := (Option.bind_some _ _).symm.trans H; rw [hy193]; with_reducible exact H2_) | (have H2_ := (Option.bind_some _ _).symm.trans H; with_reducible exact H2_) | with_reducible exact H | (rw [hy193]; exact H) | exact H
  have Ny193 := Aside0.mk hy193
  clear hy193
  obtain rfl := Option.some.inj H
  simp only [Option.some.injEq, Prod.mk.injEq] at H
  obtain ⟨rfl⟩ := H
  go_enter Try.func39, Try.ntmps39
  go_wp2_with (first | ((with_reducible refine gate_dst (N := 9) rfl ?_); refine Kd.R_lit (Kd.int .u8) _ 5 ?hg (N := 9) ?hd (xs := ([(a0) % 256] : List Int)) (inner := [.int .u8 ((a0) % 256)]) (ok := fun _ => True) (okp := fun _ => True) ?hr ?hp (fun _ hk => hk) trivial (Below.refl _ _) (Nat.le_refl _) (by simp) ?_; (case hd => rfl); (case hg => rfl); (case hr => first | (go_simp; done) | (go_simp; rfl)); (case hp => exact (Reps.one (show Kd.M (Kd.int .u8) _ _ _ ((a0) % 256) [.int .u8 ((a0) % 256)] from rfl) (Reps.none _ _))); intro v194 w4 ho5 hb hg_ hnew_; clear hg_ hnew_; (first | rw [← Ny193.out] at ho5 | (simp only [Int.reduceToNat] at ho5; rw [← Ny193.out] at ho5)); have n0_ := Aside0.mk (Kd.R_lower ho5 (below_size (hL HB.out))); have n1_ := Aside0.mk (below_step (hL HB.out) hb); clear HB; have HO195 := n0_; have HB := n1_; clear n0_ n1_; clear hb ho5))
  go_ret
  exact ⟨_, by first | rfl | (simp [errW_none, errW_some] <;> rfl) | (simp [*, errW_none, errW_some] <;> rfl), by exact rL HO195.out, hL HB.out⟩
 rw [if_neg c3] at H
 have c3b0 : decide (a0 < 128) = false := decide_eq_false c3
 clear c3
 obtain ⟨y196, hy196⟩ : ∃ y_ : List Int, y_ = (([(wrap64 (128 + (Int.tmod a0 128))) % 256] : List Int)) := ⟨_, rfl⟩
 replace H : ((shelfmarkref01_Num.f k (wrap64 (Int.tdiv a0 128))).bind fun t199 => (if y196.length + t199.length < 140737488355328 then (some (y196 ++ t199)) else (none))) = some r := by first | (rw [hy196]; with_reducible exact H) | (have H2_ := (Option.bind_some _ _).symm.trans H; rw [hy196]; with_reducible exact H2_) | (have H2_ := (Option.bind_some _ _).symm.trans H; with_reducible exact H2_) | with_reducible exact H | (rw [hy196]; exact H) | exact H
 have Ny196 := Aside0.mk hy196
 clear hy196
 replace H := Option.bind_eq_some_iff.mp H
 obtain ⟨t199, A60, H⟩ := H
 replace H : (if y196.length + t199.length < 140737488355328 then (some (y196 ++ t199)) else (none)) = some r := H
 have A6 := Aside0.mk A60
 clear A60
 by_cases c7 : y196.length + t199.length < 140737488355328
 rotate_left
 ·rw [if_neg c7] at H
  exact absurd H (by simp)
 rw [if_pos c7] at H
 have LMc7 := Aside0.mk c7
 clear c7
 obtain ⟨y202, hy202⟩ : ∃ y_ : List Int, y_ = (y196 ++ t199) := ⟨_, rfl⟩
 replace H : (some y202) = some r := by first | (rw [hy202]; with_reducible exact H) | (have H2_ := (Option.bind_some _ _).symm.trans H; rw [hy202]; with_reducible exact H2_) | (have H2_ := (Option.bind_some _ _).symm.trans H; with_reducible exact H2_) | with_reducible exact H | (rw [hy202]; exact H) | exact H
 have Ny202 := Aside0.mk hy202
 clear hy202
 obtain rfl := Option.some.inj H
 simp only [Option.some.injEq, Prod.mk.injEq] at H
 obtain ⟨rfl⟩ := H
 go_enter Try.func39, Try.ntmps39
 go_wp2_with (first | ((with_reducible refine gate_dst (N := 14) rfl ?_); refine Kd.R_lit (Kd.int .u8) _ 5 ?hg (N := 14) ?hd (xs := ([(wrap64 (128 + (Int.tmod a0 128))) % 256] : List Int)) (inner := [.int .u8 ((wrap64 (128 + (Int.tmod a0 128))) % 256)]) (ok := fun _ => True) (okp := fun _ => True) ?hr ?hp (fun _ hk => hk) trivial (Below.refl _ _) (Nat.le_refl _) (by simp) ?_; (case hd => rfl); (case hg => rfl); (case hr => first | (go_simp; done) | (go_simp; rfl)); (case hp => exact (Reps.one (show Kd.M (Kd.int .u8) _ _ _ ((wrap64 (128 + (Int.tmod a0 128))) % 256) [.int .u8 ((wrap64 (128 + (Int.tmod a0 128))) % 256)] from rfl) (Reps.none _ _))); intro v197 w8 ho9 hb hg_ hnew_; clear hg_ hnew_; (first | rw [← Ny196.out] at ho9 | (simp only [Int.reduceToNat] at ho9; rw [← Ny196.out] at ho9)); have n0_ := Aside0.mk (Kd.R_lower ho9 (below_size (hL HB.out))); have n1_ := Aside0.mk (below_step (hL HB.out) hb); clear HB; have HO198 := n0_; have HB := n1_; clear n0_ n1_; clear hb ho9) | ((with_reducible refine gate_callee (f := 39) rfl ?_); refine goesL_ (some 17) rfl rfl Try.func39 (by kernel_rfl) rfl #[.int .i64 (wrap64 (Int.tdiv a0 128))] rfl (by (try simp only [List.map_toArray, List.map_cons, List.map_nil]); first | done | rfl | (simp only [List.length_drop, List.length_take]; rfl)) ?_; (with_reducible refine (ih k (by omega) (wrap64 (Int.tdiv a0 128)) t199 _ A6.out).mono ?_); rintro e w10 ⟨v200, rfl, ho0, hb⟩; refine ⟨_, rfl, ?_⟩; have n0_ := Aside0.mk (Kd.R_elder' (rL HO198.out) (Kd.R_base ho0) hb); have n1_ := Aside0.mk (Kd.R_lower (Kd.R_new' ho0 (Kd.R_lt (rL HO198.out))) (below_size (hL HB.out))); have n2_ := Aside0.mk (below_step (hL HB.out) hb); clear HO198; clear HB; have HO198 := n0_; have HO201 := n1_; have HB := n2_; clear n0_ n1_ n2_; (try clear hb); (try clear hb2); (try clear hk); (try clear hi); (try clear ho0); obtain ⟨Ao12, co12, eo12⟩ := Kd.R_slice HO201.out; subst eo12) | ((with_reducible refine gate_builtin (b := .append) (xs := #[.tmp 14, .tmp 17]) rfl ?_); at_builtin; refine Kd.R_append_rows (Kd.int .u8) (w0 := w) w.heap.size rfl (.tmp 14) (.tmp 17) 45 5 (.int .u8 0) 1 rfl Try.underlying45 info5 rfl (by decide) (by omega) v197 y196 t199 _ _ _ (fun k_ => some k_ ≠ (.slice Ao12 t199.length co12 : Value).ownBlock) (fun _ => False) rfl rfl ?aO ?aR (fun _ _ h => h) (fun _ h => h.elim) ?aF ?aB ?aS ?aL ?_; (case aR => repeat (first | exact (Kd.R_reads' HO201.out).2.2 | (with_reducible refine Kd.C_alloc ?_ _) | (with_reducible refine Kd.C_drewN ?_ _) | (with_reducible refine Kd.C_drew ?_))); (case aB => exact (hL HB.out)); (case aF => exact (fun k_ hk => Kd.fresh' (Kd.R_lt (rL HO201.out)) k_ hk)); (case aO => exact (by (with_reducible repeat (first | apply Kd.R_alloc | apply Kd.R_drewN | apply Kd.R_drew)); exact Kd.R_mono HO198.out (fun _ hk => hk.2))); (case aS => exact (below_size (hL HB.out))); (case aL => have := LMc7.out; omega); intro v203 w11 ho hb hg hat; rw [← Ny202.out] at ho; have n0_ := Aside0.mk (Kd.R_after (ok := (fun _ => True)) (rL HO201.out) hg hat); have n1_ := Aside0.mk (hb); have n2_ := Aside0.mk (ho); clear HO201; clear HB; clear HO198; have HO201 := n0_; have HB := n1_; have HO204 := n2_; clear n0_ n1_ n2_; clear ho hb hg hat))
 go_ret
 exact ⟨_, by first | rfl | (simp [errW_none, errW_some] <;> rfl) | (simp [*, errW_none, errW_some] <;> rfl), by (with_reducible repeat (first | apply Kd.R_alloc | apply Kd.R_drewN | apply Kd.R_drew)); exact Kd.R_mono HO204.out (fun _ hk => trivial), hL HB.out⟩

/-! ### shelfmarkref01_Text: function 40 -/
def shelfmarkref01_Text.f (k : Nat) (a0 : ByteArray) : Option (List Int) := (shelfmarkref01_Num.f k (a0.size : Int)).bind fun t205 => (if t205.length + a0.size < 140737488355328 then (some (t205 ++ bytesOf a0)) else (none))
theorem shelfmarkref01_Text.mono : ∀ a0 k, LeO (shelfmarkref01_Text.f k a0) (shelfmarkref01_Text.f (k + 1) a0) := by
 intro a0 k
 unfold shelfmarkref01_Text.f
 repeat' first
   | (with_reducible exact shelfmarkref01_Num.mono _ _)
   | (with_reducible exact LeO.refl _)
   | (with_reducible exact LeO.none _)
   | (with_reducible refine LeO.ite ?_ ?_)
   | (with_reducible refine LeO.bind ?_ (fun _ => ?_))
   | exact shelfmarkref01_Num.mono _ _
   | exact LeO.none _
   | refine LeO.ite ?_ ?_
   | refine LeO.bind ?_ (fun _ => ?_)
set_option maxHeartbeats 8000000 in
set_option maxRecDepth 100000 in
theorem shelfmarkref01_Text.calls (k : Nat) (a0 : ByteArray) (r : List Int) (w : World) (h : shelfmarkref01_Text.f k a0 = some r) :
  Calls Try.prog 40 #[.string a0] w fun e w' => ∃ v0_ : Value, e = .returned (v0_) ∧ Kd.R (Kd.int .u8) 5 w' w.heap.size (fun _ => True) v0_ r ∧ Below w.heap.size w w' := by
 have HB := Aside0.mk (Below.refl w.heap.size w)
 have H : ((shelfmarkref01_Num.f k (a0.size : Int)).bind fun t205 => (if t205.length + a0.size < 140737488355328 then (some (t205 ++ bytesOf a0)) else (none))) = some r := h
 clear h
 replace H := Option.bind_eq_some_iff.mp H
 obtain ⟨t205, A20, H⟩ := H
 replace H : (if t205.length + a0.size < 140737488355328 then (some (t205 ++ bytesOf a0)) else (none)) = some r := H
 have A2 := Aside0.mk A20
 clear A20
 by_cases c3 : t205.length + a0.size < 140737488355328
 rotate_left
 ·rw [if_neg c3] at H
  exact absurd H (by simp)
 rw [if_pos c3] at H
 have LMc3 := Aside0.mk c3
 clear c3
 obtain ⟨y208, hy208⟩ : ∃ y_ : List Int, y_ = (t205 ++ bytesOf a0) := ⟨_, rfl⟩
 replace H : (some y208) = some r := by first | (rw [hy208]; with_reducible exact H) | (have H2_ := (Option.bind_some _ _).symm.trans H; rw [hy208]; with_reducible exact H2_) | (have H2_ := (Option.bind_some _ _).symm.trans H; with_reducible exact H2_) | with_reducible exact H | (rw [hy208]; exact H) | exact H
 have Ny208 := Aside0.mk hy208
 clear hy208
 obtain rfl := Option.some.inj H
 simp only [Option.some.injEq, Prod.mk.injEq] at H
 obtain ⟨rfl⟩ := H
 go_enter Try.func40, Try.ntmps40
 go_wp2_with (first | ((with_reducible refine gate_callee (f := 39) rfl ?_); refine goesL_ (some 5) rfl rfl Try.func39 (by kernel_rfl) rfl #[.int .i64 (a0.size : Int)] rfl (by (try simp only [List.map_toArray, List.map_cons, List.map_nil]); first | done | rfl | (simp only [List.length_drop, List.length_take]; rfl)) ?_; (with_reducible refine (shelfmarkref01_Num.calls k (a0.size : Int) t205 _ A2.out).mono ?_); rintro e w4 ⟨v206, rfl, ho0, hb⟩; refine ⟨_, rfl, ?_⟩; have n0_ := Aside0.mk (Kd.R_lower ho0 (below_size (hL HB.out))); have n1_ := Aside0.mk (below_step (hL HB.out) hb); clear HB; have HO207 := n0_; have HB := n1_; clear n0_ n1_; (try clear hb); (try clear hb2); (try clear hk); (try clear hi); (try clear ho0)) | (at_builtin; refine print_append_str (w0 := w) w.heap.size rfl (.tmp 5) _ 45 9 5 rfl Try.underlying45 Try.underlying9 info5 v206 t205 a0 rfl rfl ?aO ?aB ?aS ?aL ?_; (case aB => exact (hL HB.out)); (case aO => exact (Kd.own_of_R (rL HO207.out))); (case aS => exact (below_size (hL HB.out))); (case aL => have := LMc3.out; omega); intro v209 w5 ho0 hb hg; have ho := Kd.R_of_own (h1 := fun _ => rfl) (ok := fun _ => True) ho0 (fun _ _ => trivial); clear ho0; have hat := True.intro; rw [← Ny208.out] at ho; change Kd.R (Kd.int .u8) 5 w5 w.heap.size (fun _ => True) v209 y208 at ho; have n0_ := Aside0.mk (hb); have n1_ := Aside0.mk (ho); clear HB; clear HO207; have HB := n0_; have HO210 := n1_; clear n0_ n1_; clear ho hb hg hat))
 go_ret
 exact ⟨_, by first | rfl | (simp [errW_none, errW_some] <;> rfl) | (simp [*, errW_none, errW_some] <;> rfl), by exact rL HO210.out, hL HB.out⟩

end Go.Proofs.Ytkkfkccfnfjbiaa.PAll
