-- Written by a program of this session for this claim (mp.py, over the kit's print); Lean checks it.
import Derived.Test.YtkkfkccfnfjbiaaPMkx0
import Derived.Test.YtkkfkccfnfjbiaaPMkx4
import Derived.Test.YtkkfkccfnfjbiaaPMkx5
import Derived.Test.YtkkfkccfnfjbiaaPMkx9
import Derived.Test.YtkkfkccfnfjbiaaPMkx17
import Derived.Test.YtkkfkccfnfjbiaaPMkx19
namespace Go.Proofs.Ytkkfkccfnfjbiaa.PMk
open Go.RowKit Go.Proofs.YtkkfkccfnfjbiaaW.PrintWords Go.Proofs.YtkkfkccfnfjbiaaW.PrintLast Go.Proofs.YtkkfkccfnfjbiaaW.PrintMore Go.Proofs.Ytkkfkccfnfjbiaa.Fv Go.Proofs.Ytkkfkccfnfjbiaa.Hl
attribute [local go_sem] max2_int min2_int max_two min_two max_three min_three max_four min_four str_gtr str_leq str_geq cell_set2   -- for this text's walks alone
set_option linter.unusedVariables false
set_option linter.unusedSimpArgs false

/-! ### shelfmarkref09_Right: function 29 -/
mutual
def shelfmarkref09_Right.l0 : Nat → List (S37) → Int → Option (Bool)
 | 0, _, _ => none
 | k + 1, x0, x3 => if x3 < (x0.length : Int) then (if 0 ≤ x3 then (if (rd_T37 x0 x3).f2 = true then (shelfmarkref09_Right.j1 k x0 x3 (((rd_T37 x0 x3).f1).toList != ([] : List UInt8))) else (shelfmarkref09_Right.j1 k x0 x3 false)) else (none)) else (some true)
def shelfmarkref09_Right.j1 : Nat → List (S37) → Int → Bool → Option (Bool)
 | 0, _, _, _ => none
 | k + 1, x0, x3, x22 => if x22 = true then (some false) else (if x3 > 0 then (if 0 ≤ x3 then (if x3 < (x0.length : Int) then (if 0 ≤ (wrap64 (x3 - 1)) then (if (wrap64 (x3 - 1)) < (x0.length : Int) then (if ((Op.bytesLess (((rd_T37 x0 (wrap64 (x3 - 1))).f0).toList) (((rd_T37 x0 x3).f0).toList)) = true) then (shelfmarkref09_Right.l0 k x0 (wrap64 (x3 + 1))) else (some false)) else (none)) else (none)) else (none)) else (none)) else (shelfmarkref09_Right.l0 k x0 (wrap64 (x3 + 1))))
end
def shelfmarkref09_Right.f (k : Nat) (l0 : List (S37)) : Option (Bool) := shelfmarkref09_Right.l0 k l0 0
theorem shelfmarkref09_Right.mono_l : ∀ k, (∀ y0 y1, LeO (shelfmarkref09_Right.l0 k y0 y1) (shelfmarkref09_Right.l0 (k + 1) y0 y1)) ∧ (∀ y0 y1 y2, LeO (shelfmarkref09_Right.j1 k y0 y1 y2) (shelfmarkref09_Right.j1 (k + 1) y0 y1 y2))
 | 0 => ⟨fun _ _ r h => by simp [shelfmarkref09_Right.l0] at h, fun _ _ _ r h => by simp [shelfmarkref09_Right.j1] at h⟩
 | k + 1 => by
  obtain ⟨ih0, ih1⟩ := shelfmarkref09_Right.mono_l k
  refine ⟨?_, ?_⟩
  ·intro y0 y1
   unfold shelfmarkref09_Right.l0
   repeat' first
   | (with_reducible exact ih0 _ _)
   | (with_reducible exact ih1 _ _ _)
   | (with_reducible exact LeO.refl _)
   | (with_reducible exact LeO.none _)
   | (with_reducible refine LeO.ite ?_ ?_)
   | (with_reducible refine LeO.bind ?_ (fun _ => ?_))
   | exact ih0 _ _
   | exact ih1 _ _ _
   | exact LeO.none _
   | refine LeO.ite ?_ ?_
   | refine LeO.bind ?_ (fun _ => ?_)
  ·intro y0 y1 y2
   unfold shelfmarkref09_Right.j1
   repeat' first
   | (with_reducible exact ih0 _ _)
   | (with_reducible exact ih1 _ _ _)
   | (with_reducible exact LeO.refl _)
   | (with_reducible exact LeO.none _)
   | (with_reducible refine LeO.ite ?_ ?_)
   | (with_reducible refine LeO.bind ?_ (fun _ => ?_))
   | exact ih0 _ _
   | exact ih1 _ _ _
   | exact LeO.none _
   | refine LeO.ite ?_ ?_
   | refine LeO.bind ?_ (fun _ => ?_)
theorem shelfmarkref09_Right.mono : ∀ a0 k, LeO (shelfmarkref09_Right.f k a0) (shelfmarkref09_Right.f (k + 1) a0) := by
 intro a0 k
 obtain ⟨ih0, ih1⟩ := shelfmarkref09_Right.mono_l k
 unfold shelfmarkref09_Right.f
 repeat' first
   | (with_reducible exact ih0 _ _)
   | (with_reducible exact ih1 _ _ _)
   | (with_reducible exact LeO.refl _)
   | (with_reducible exact LeO.none _)
   | (with_reducible refine LeO.ite ?_ ?_)
   | (with_reducible refine LeO.bind ?_ (fun _ => ?_))
   | exact ih0 _ _
   | exact ih1 _ _ _
   | exact LeO.none _
   | refine LeO.ite ?_ ?_
   | refine LeO.bind ?_ (fun _ => ?_)
set_option maxHeartbeats 8000000 in
set_option maxRecDepth 100000 in
theorem shelfmarkref09_Right.calls (k : Nat) (A0 : Option Addr) (c0 : Nat) (l0 : List (S37)) (r : Bool) (w : World) (hr0 : Kd.C k37 w A0 l0.length l0) (hc0 : l0.length ≤ c0) (h : shelfmarkref09_Right.f k l0 = some r) :
  Calls Try.prog 29 #[.slice A0 l0.length c0] w fun e w' => e = .returned (.bool r) ∧ Drawn0 w w' := by
 have HR0 := Aside0.mk hr0
 have HC0 := Aside0.mk hc0
 clear hr0 hc0
 have H : (shelfmarkref09_Right.l0 k l0 0) = some r := h
 clear h
 have H' := Aside0.mk H
 clear H
 go_enter Try.func29, Try.ntmps29
 go_wp2
 repeat (go_quiet (fail); try go_wp2)
 go_loopg [3] k (fun kq v3 w' => ∃ (x3_1 : Int), v3 = .int .i64 x3_1 ∧ Aside0 (shelfmarkref09_Right.l0 kq l0 x3_1 = some r) ∧ Aside0 (kq ≤ k) ∧ Drawn0 w w')
 case atStart => exact ⟨(0), (by first | rfl | (simp; done) | (simp [*]; done) | (simp [ne_nil_bytes]; done) | (simp [eq_nil_bytes]; done)), H', ⟨Nat.le_refl _⟩, by repeat (first | exact Drawn0.refl _ | apply Drawn0.step)⟩
 clear H'
 obtain ⟨x3_1, rfl, HA, HK1, ⟨m1, rfl⟩⟩ := hrel
 rcases gk with _ | k1
 ·exact absurd HA.out (by simp [shelfmarkref09_Right.l0])
 have H := HA.out
 clear HA
 simp only [shelfmarkref09_Right.l0] at H
 by_cases c2 : x3_1 < (l0.length : Int)
 rotate_left
 ·rw [if_neg c2] at H
  have c2b0 : decide (x3_1 < (l0.length : Int)) = false := decide_eq_false c2
  clear c2
  obtain rfl := Option.some.inj H
  simp only [Option.some.injEq, Prod.mk.injEq] at H
  obtain ⟨rfl⟩ := H
  go_wp2
  repeat (go_quiet (fail); try go_wp2)
  go_ret
  exact ⟨by first | rfl | (simp; done) | (simp [*]; done), by repeat (first | exact Drawn0.refl _ | apply Drawn0.step)⟩
 rw [if_pos c2] at H
 have c2b0 : decide (x3_1 < (l0.length : Int)) = true := decide_eq_true c2
 clear c2
 have HC3 := Aside0.mk H
 clear H
 go_upto_region 4 with (fail)
 repeat (go_quiet (fail); go_upto_region 4 with (fail))
 go_cut [22] (fun v22 wc => ∃ (kq : Nat) (x22_2 : Bool), v22 = .bool x22_2 ∧ Aside0 (shelfmarkref09_Right.j1 kq l0 x3_1 x22_2 = some r) ∧ Aside0 (kq ≤ k1) ∧ Drawn0 w wc)
 case first =>
  have H := HC3.out
  clear HC3
  by_cases c4 : 0 ≤ x3_1
  rotate_left
  ·rw [if_neg c4] at H
   exact absurd H (by simp)
  rw [if_pos c4] at H
  have c4b0 : decide (0 ≤ x3_1) = true := decide_eq_true c4
  clear c4
  (first | rw [c4b0] | (simp only [i64_w, i32_w]; rw [c4b0]) | skip)
  obtain ⟨bq5, hbq5⟩ : ∃ b_ : Bool, b_ = ((rd_T37 l0 x3_1).f2) := ⟨_, rfl⟩
  replace H : (if bq5 = true then (shelfmarkref09_Right.j1 k1 l0 x3_1 (((rd_T37 l0 x3_1).f1).toList != ([] : List UInt8))) else (shelfmarkref09_Right.j1 k1 l0 x3_1 false)) = some r := by rw [← hbq5] at H; exact H
  have Nbq5 := Aside0.mk hbq5
  clear hbq5
  by_cases c6 : bq5 = true
  rotate_left
  ·replace c6 := Bool.eq_false_iff.mpr c6
   subst c6
   have H1 : (shelfmarkref09_Right.j1 k1 l0 x3_1 false) = some r := by rw [if_neg (show ¬ (false = true) by decide)] at H; exact H
   clear H
   have H := H1
   clear H1
   have H' := Aside0.mk H
   clear H
   have p306 : 0 ≤ (x3_1 : Int) := of_decide_eq_true (by first | (with_reducible assumption) | assumption)
   have q306 : x3_1 < (l0.length : Int) := of_decide_eq_true (by first | (with_reducible assumption) | assumption)
   obtain ⟨ad306, e306, hx306_0, hx306_1, hx306_2⟩ := at_T37 HR0.out x3_1 p306 q306
   (try rw [← Nbq5.out] at hx306_2)
   cases e306
   replace p306 := eq_true p306
   replace q306 := eq_true q306
   go_wp2
   repeat (go_quiet (fail); try go_wp2)
   go_meet
   case rel => (first | exact ⟨_, (false), (by first | rfl | (simp; done) | (simp [*]; done) | (simp [ne_nil_bytes]; done) | (simp [eq_nil_bytes]; done)), H', ⟨by have := HK1.out; first | omega | exact Nat.le_refl _⟩, by repeat (first | exact Drawn0.refl _ | apply Drawn0.step)⟩ | ((try rw [← Nbq5.out]); exact ⟨_, (false), (by first | rfl | (simp; done) | (simp [*]; done) | (simp [ne_nil_bytes]; done) | (simp [eq_nil_bytes]; done)), H', ⟨by have := HK1.out; first | omega | exact Nat.le_refl _⟩, by repeat (first | exact Drawn0.refl _ | apply Drawn0.step)⟩))
  subst c6
  have H1 : (shelfmarkref09_Right.j1 k1 l0 x3_1 (((rd_T37 l0 x3_1).f1).toList != ([] : List UInt8))) = some r := by rw [if_pos rfl] at H; exact H
  clear H
  have H := H1
  clear H1
  have H' := Aside0.mk H
  clear H
  have p306 : 0 ≤ (x3_1 : Int) := of_decide_eq_true (by first | (with_reducible assumption) | assumption)
  have q306 : x3_1 < (l0.length : Int) := of_decide_eq_true (by first | (with_reducible assumption) | assumption)
  obtain ⟨ad306, e306, hx306_0, hx306_1, hx306_2⟩ := at_T37 HR0.out x3_1 p306 q306
  (try rw [← Nbq5.out] at hx306_2)
  cases e306
  replace p306 := eq_true p306
  replace q306 := eq_true q306
  have p307 : 0 ≤ (x3_1 : Int) := of_decide_eq_true (by first | (with_reducible assumption) | assumption)
  have q307 : x3_1 < (l0.length : Int) := of_decide_eq_true (by first | (with_reducible assumption) | assumption)
  obtain ⟨ad307, e307, hx307_0, hx307_1, hx307_2⟩ := at_T37 HR0.out x3_1 p307 q307
  (try rw [← Nbq5.out] at hx307_2)
  obtain rfl : ad306 = ad307 := (by injection e307)
  replace p307 := eq_true p307
  replace q307 := eq_true q307
  go_wp2
  repeat (go_quiet (fail); try go_wp2)
  go_meet
  case rel => (first | exact ⟨_, ((((rd_T37 l0 x3_1).f1).toList != ([] : List UInt8))), (by first | rfl | (simp; done) | (simp [*]; done) | (simp [ne_nil_bytes]; done) | (simp [eq_nil_bytes]; done)), H', ⟨by have := HK1.out; first | omega | exact Nat.le_refl _⟩, by repeat (first | exact Drawn0.refl _ | apply Drawn0.step)⟩ | ((try rw [← Nbq5.out]); exact ⟨_, ((((rd_T37 l0 x3_1).f1).toList != ([] : List UInt8))), (by first | rfl | (simp; done) | (simp [*]; done) | (simp [ne_nil_bytes]; done) | (simp [eq_nil_bytes]; done)), H', ⟨by have := HK1.out; first | omega | exact Nat.le_refl _⟩, by repeat (first | exact Drawn0.refl _ | apply Drawn0.step)⟩))
 clear HC3
 try clear c2
 try clear c2b0
 try clear c2b0z
 try clear p2
 try clear p3
 try clear q3
 try clear hx3
 try clear c4
 try clear c4b0
 try clear c4b0z
 try clear q5
 try clear c6
 try clear hx306_0
 try clear hx306_1
 try clear hx306_2
 try clear hx307_0
 try clear hx307_1
 try clear hx307_2
 try clear p306
 try clear p307
 try clear q306
 try clear q307
 obtain ⟨kq, x22_2, rfl, HA, HJ2, ⟨mc2, rfl⟩⟩ := hcut
 rcases kq with _ | kj2
 ·exact absurd HA.out (by simp [shelfmarkref09_Right.j1])
 have H := HA.out
 clear HA
 simp only [shelfmarkref09_Right.j1] at H
 by_cases c7 : x22_2 = true
 ·subst c7
  have H1 : (some false) = some r := by rw [if_pos rfl] at H; exact H
  clear H
  have H := H1
  clear H1
  obtain rfl := Option.some.inj H
  simp only [Option.some.injEq, Prod.mk.injEq] at H
  obtain ⟨rfl⟩ := H
  go_wp2
  repeat (go_quiet (fail); try go_wp2)
  go_ret
  exact ⟨by first | rfl | (simp; done) | (simp [*]; done), by repeat (first | exact Drawn0.refl _ | apply Drawn0.step)⟩
 replace c7 := Bool.eq_false_iff.mpr c7
 subst c7
 have H1 : (if x3_1 > 0 then (if 0 ≤ x3_1 then (if x3_1 < (l0.length : Int) then (if 0 ≤ (wrap64 (x3_1 - 1)) then (if (wrap64 (x3_1 - 1)) < (l0.length : Int) then (if ((Op.bytesLess (((rd_T37 l0 (wrap64 (x3_1 - 1))).f0).toList) (((rd_T37 l0 x3_1).f0).toList)) = true) then (shelfmarkref09_Right.l0 kj2 l0 (wrap64 (x3_1 + 1))) else (some false)) else (none)) else (none)) else (none)) else (none)) else (shelfmarkref09_Right.l0 kj2 l0 (wrap64 (x3_1 + 1)))) = some r := by rw [if_neg (show ¬ (false = true) by decide)] at H; exact H
 clear H
 have H := H1
 clear H1
 by_cases c8 : x3_1 > 0
 rotate_left
 ·rw [if_neg c8] at H
  have c8b0 : decide (0 < x3_1) = false := decide_eq_false c8
  clear c8
  have H' := Aside0.mk H
  clear H
  go_wp2
  repeat (go_quiet (fail); try go_wp2)
  go_roundg kj2
  case measure => have := HK1.out; have := HJ2.out; omega
  case rel => exact ⟨(wrap64 (x3_1 + 1)), (by first | rfl | (simp; done) | (simp [*]; done) | (simp [ne_nil_bytes]; done) | (simp [eq_nil_bytes]; done)), H', ⟨by have := HK1.out; have := HJ2.out; omega⟩, by repeat (first | exact Drawn0.refl _ | apply Drawn0.step)⟩
 rw [if_pos c8] at H
 have c8b0 : decide (0 < x3_1) = true := decide_eq_true c8
 clear c8
 by_cases c9 : 0 ≤ x3_1
 rotate_left
 ·rw [if_neg c9] at H
  exact absurd H (by simp)
 rw [if_pos c9] at H
 have c9b0 : decide (0 ≤ x3_1) = true := decide_eq_true c9
 clear c9
 by_cases c10 : x3_1 < (l0.length : Int)
 rotate_left
 ·rw [if_neg c10] at H
  exact absurd H (by simp)
 rw [if_pos c10] at H
 have c10b0 : decide (x3_1 < (l0.length : Int)) = true := decide_eq_true c10
 clear c10
 obtain ⟨ji11, hji11⟩ : ∃ j_ : Int, (wrap64 (x3_1 - 1)) = j_ := ⟨_, rfl⟩
 replace H : (if 0 ≤ (ji11) then (if (ji11) < (l0.length : Int) then (if ((Op.bytesLess (((rd_T37 l0 (ji11)).f0).toList) (((rd_T37 l0 x3_1).f0).toList)) = true) then (shelfmarkref09_Right.l0 kj2 l0 (wrap64 (x3_1 + 1))) else (some false)) else (none)) else (none)) = some r := by first | (rw [hji11] at H; exact H) | (simp only [hji11] at H ⊢; exact H)
 have hji11w : (IntKind.i64.wrap (x3_1 - 1)) = ji11 := (i64_w _).trans hji11
 by_cases c12 : 0 ≤ (ji11)
 rotate_left
 ·rw [if_neg c12] at H
  exact absurd H (by simp)
 rw [if_pos c12] at H
 have c12b0 : decide (0 ≤ (ji11)) = true := decide_eq_true c12
 clear c12
 by_cases c13 : (ji11) < (l0.length : Int)
 rotate_left
 ·rw [if_neg c13] at H
  exact absurd H (by simp)
 rw [if_pos c13] at H
 have c13b0 : decide ((ji11) < (l0.length : Int)) = true := decide_eq_true c13
 clear c13
 by_cases c14 : ((Op.bytesLess (((rd_T37 l0 (ji11)).f0).toList) (((rd_T37 l0 x3_1).f0).toList)) = true)
 rotate_left
 ·rw [if_neg c14] at H
  have c14b0 : (Op.bytesLess (((rd_T37 l0 (ji11)).f0).toList) (((rd_T37 l0 x3_1).f0).toList)) = false := by simpa using c14
  clear c14
  obtain rfl := Option.some.inj H
  simp only [Option.some.injEq, Prod.mk.injEq] at H
  obtain ⟨rfl⟩ := H
  have p308 : 0 ≤ (x3_1 : Int) := of_decide_eq_true (by first | (with_reducible assumption) | assumption)
  have q308 : x3_1 < (l0.length : Int) := of_decide_eq_true (by first | (with_reducible assumption) | assumption)
  obtain ⟨ad308, e308, hx308_0, hx308_1, hx308_2⟩ := at_T37 HR0.out x3_1 p308 q308
  cases e308
  replace p308 := eq_true p308
  replace q308 := eq_true q308
  have p309 : 0 ≤ ((ji11) : Int) := of_decide_eq_true (by first | (with_reducible assumption) | assumption)
  have q309 : (ji11) < (l0.length : Int) := of_decide_eq_true (by first | (with_reducible assumption) | assumption)
  obtain ⟨ad309, e309, hx309_0, hx309_1, hx309_2⟩ := at_T37 HR0.out (ji11) p309 q309
  obtain rfl : ad308 = ad309 := (by injection e309)
  replace p309 := eq_true p309
  replace q309 := eq_true q309
  go_wp2
  repeat (go_quiet (fail); try go_wp2)
  go_ret
  exact ⟨by first | rfl | (simp; done) | (simp only [← hji11] <;> (first | rfl | simp)) | (simp [*]; done), by repeat (first | exact Drawn0.refl _ | apply Drawn0.step)⟩
 rw [if_pos c14] at H
 have c14b0 : (Op.bytesLess (((rd_T37 l0 (ji11)).f0).toList) (((rd_T37 l0 x3_1).f0).toList)) = true := c14
 clear c14
 have H' := Aside0.mk H
 clear H
 have p308 : 0 ≤ (x3_1 : Int) := of_decide_eq_true (by first | (with_reducible assumption) | assumption)
 have q308 : x3_1 < (l0.length : Int) := of_decide_eq_true (by first | (with_reducible assumption) | assumption)
 obtain ⟨ad308, e308, hx308_0, hx308_1, hx308_2⟩ := at_T37 HR0.out x3_1 p308 q308
 cases e308
 replace p308 := eq_true p308
 replace q308 := eq_true q308
 have p309 : 0 ≤ ((ji11) : Int) := of_decide_eq_true (by first | (with_reducible assumption) | assumption)
 have q309 : (ji11) < (l0.length : Int) := of_decide_eq_true (by first | (with_reducible assumption) | assumption)
 obtain ⟨ad309, e309, hx309_0, hx309_1, hx309_2⟩ := at_T37 HR0.out (ji11) p309 q309
 obtain rfl : ad308 = ad309 := (by injection e309)
 replace p309 := eq_true p309
 replace q309 := eq_true q309
 go_wp2
 repeat (go_quiet (fail); try go_wp2)
 go_roundg kj2
 case measure => have := HK1.out; have := HJ2.out; omega
 case rel => exact ⟨(wrap64 (x3_1 + 1)), (by first | rfl | (simp; done) | (simp [*]; done) | (simp [ne_nil_bytes]; done) | (simp [eq_nil_bytes]; done)), H', ⟨by have := HK1.out; have := HJ2.out; omega⟩, by repeat (first | exact Drawn0.refl _ | apply Drawn0.step)⟩

/-! ### shelfmarklaw09_RunMakes: function 6 -/
def shelfmarklaw09_RunMakes.f (k : Nat) (l0 : List (S37)) : Option (Bool) := (shelfmarklaw09_awake.f k).bind fun t310 => (if t310 = true then ((shelfmarkref09_Light.f k l0 60).bind fun t311 => (if t311 = true then ((run_Make.f k l0).bind fun t312 => ((shelfmarkref09_Make.f k l0).bind fun t315 => ((shelfmarkref09_Same.f k t312 t315).bind fun t318 => (if t318 = true then ((run_Right.f k t312).bind fun t319 => (if t319 = true then ((run_Right.f k l0).bind fun t320 => ((shelfmarkref09_Right.f k l0).bind fun t321 => (some (t320 == t321)))) else (some false))) else (some false))))) else (some true))) else (some false))
theorem shelfmarklaw09_RunMakes.mono : ∀ a0 k, LeO (shelfmarklaw09_RunMakes.f k a0) (shelfmarklaw09_RunMakes.f (k + 1) a0) := by
 intro a0 k
 unfold shelfmarklaw09_RunMakes.f
 repeat' first
   | (with_reducible exact run_Make.mono _ _)
   | (with_reducible exact run_Right.mono _ _)
   | (with_reducible exact shelfmarklaw09_awake.mono _)
   | (with_reducible exact shelfmarkref09_Light.mono _ _ _)
   | (with_reducible exact shelfmarkref09_Make.mono _ _)
   | (with_reducible exact shelfmarkref09_Right.mono _ _)
   | (with_reducible exact shelfmarkref09_Same.mono _ _ _)
   | (with_reducible exact LeO.refl _)
   | (with_reducible exact LeO.none _)
   | (with_reducible refine LeO.ite ?_ ?_)
   | (with_reducible refine LeO.bind ?_ (fun _ => ?_))
   | exact run_Make.mono _ _
   | exact run_Right.mono _ _
   | exact shelfmarklaw09_awake.mono _
   | exact shelfmarkref09_Light.mono _ _ _
   | exact shelfmarkref09_Make.mono _ _
   | exact shelfmarkref09_Right.mono _ _
   | exact shelfmarkref09_Same.mono _ _ _
   | exact LeO.none _
   | refine LeO.ite ?_ ?_
   | refine LeO.bind ?_ (fun _ => ?_)
set_option maxHeartbeats 8000000 in
set_option maxRecDepth 100000 in
theorem shelfmarklaw09_RunMakes.calls (k : Nat) (A0 : Option Addr) (c0 : Nat) (l0 : List (S37)) (r : Bool) (w : World) (hr0 : Kd.C k37 w A0 l0.length l0) (hc0 : l0.length ≤ c0) (h : shelfmarklaw09_RunMakes.f k l0 = some r) (hlaw : r = true) :
  Calls Try.prog 6 #[.slice A0 l0.length c0] w fun e w' => e = .returned (.bool r) ∧ Below w.heap.size w w' := by
 have HLAW := Aside0.mk hlaw
 clear hlaw
 have HR0 := Aside0.mk hr0
 have HC0 := Aside0.mk hc0
 clear hr0 hc0
 have HB := Aside0.mk (Below.refl w.heap.size w)
 have H : ((shelfmarklaw09_awake.f k).bind fun t310 => (if t310 = true then ((shelfmarkref09_Light.f k l0 60).bind fun t311 => (if t311 = true then ((run_Make.f k l0).bind fun t312 => ((shelfmarkref09_Make.f k l0).bind fun t315 => ((shelfmarkref09_Same.f k t312 t315).bind fun t318 => (if t318 = true then ((run_Right.f k t312).bind fun t319 => (if t319 = true then ((run_Right.f k l0).bind fun t320 => ((shelfmarkref09_Right.f k l0).bind fun t321 => (some (t320 == t321)))) else (some false))) else (some false))))) else (some true))) else (some false))) = some r := h
 clear h
 replace H := Option.bind_eq_some_iff.mp H
 obtain ⟨t310, A20, H⟩ := H
 replace H : (if t310 = true then ((shelfmarkref09_Light.f k l0 60).bind fun t311 => (if t311 = true then ((run_Make.f k l0).bind fun t312 => ((shelfmarkref09_Make.f k l0).bind fun t315 => ((shelfmarkref09_Same.f k t312 t315).bind fun t318 => (if t318 = true then ((run_Right.f k t312).bind fun t319 => (if t319 = true then ((run_Right.f k l0).bind fun t320 => ((shelfmarkref09_Right.f k l0).bind fun t321 => (some (t320 == t321)))) else (some false))) else (some false))))) else (some true))) else (some false)) = some r := H
 have A2 := Aside0.mk A20
 clear A20
 by_cases c3 : t310 = true
 rotate_left
 ·replace c3 := Bool.eq_false_iff.mpr c3
  subst c3
  have H1 : (some false) = some r := by rw [if_neg (show ¬ (false = true) by decide)] at H; exact H
  clear H
  have H := H1
  clear H1
  obtain rfl := Option.some.inj H
  exact absurd HLAW.out (by decide)
 subst c3
 have H1 : ((shelfmarkref09_Light.f k l0 60).bind fun t311 => (if t311 = true then ((run_Make.f k l0).bind fun t312 => ((shelfmarkref09_Make.f k l0).bind fun t315 => ((shelfmarkref09_Same.f k t312 t315).bind fun t318 => (if t318 = true then ((run_Right.f k t312).bind fun t319 => (if t319 = true then ((run_Right.f k l0).bind fun t320 => ((shelfmarkref09_Right.f k l0).bind fun t321 => (some (t320 == t321)))) else (some false))) else (some false))))) else (some true))) = some r := by rw [if_pos rfl] at H; exact H
 clear H
 have H := H1
 clear H1
 replace H := Option.bind_eq_some_iff.mp H
 obtain ⟨t311, A40, H⟩ := H
 replace H : (if t311 = true then ((run_Make.f k l0).bind fun t312 => ((shelfmarkref09_Make.f k l0).bind fun t315 => ((shelfmarkref09_Same.f k t312 t315).bind fun t318 => (if t318 = true then ((run_Right.f k t312).bind fun t319 => (if t319 = true then ((run_Right.f k l0).bind fun t320 => ((shelfmarkref09_Right.f k l0).bind fun t321 => (some (t320 == t321)))) else (some false))) else (some false))))) else (some true)) = some r := H
 have A4 := Aside0.mk A40
 clear A40
 by_cases c5 : t311 = true
 rotate_left
 ·replace c5 := Bool.eq_false_iff.mpr c5
  subst c5
  have H1 : (some true) = some r := by rw [if_neg (show ¬ (false = true) by decide)] at H; exact H
  clear H
  have H := H1
  clear H1
  obtain rfl := Option.some.inj H
  simp only [Option.some.injEq, Prod.mk.injEq] at H
  obtain ⟨rfl⟩ := H
  go_enter Try.func6, Try.ntmps6
  go_wp2_with (first | ((with_reducible refine gate_callee (f := 9) rfl ?_); refine goesL_ (some 4) rfl rfl Try.func9 (by kernel_rfl) rfl #[] rfl (by (try simp only [List.map_toArray, List.map_cons, List.map_nil]); first | done | rfl | (simp only [List.length_drop, List.length_take]; rfl)) ?_; (with_reducible refine (shelfmarklaw09_awake.calls k  true _ A2.out).mono ?_); rintro e w22 ⟨rfl, hb⟩; refine ⟨_, rfl, ?_⟩; have n0_ := Aside0.mk (below_step (hL HB.out) hb); clear HB; have HB := n0_; clear n0_; (try clear hb); (try clear hb2); (try clear hk); (try clear hi)) | ((with_reducible refine gate_callee (f := 15) rfl ?_); refine goesL_ (some 7) rfl rfl Try.func15 (by kernel_rfl) rfl #[.slice A0 l0.length c0, .int .i64 60] rfl (by (try simp only [List.map_toArray, List.map_cons, List.map_nil]); first | done | rfl | (simp only [List.length_drop, List.length_take]; rfl)) ?_; (with_reducible refine (shelfmarkref09_Light.calls k _ _ l0 60 false _ ?side1 ?side2 A4.out).mono ?_); (case side1 => repeat (first | exact (Kd.C_below HR0.out HB.out) | (with_reducible refine Kd.C_alloc ?_ _) | (with_reducible refine Kd.C_drewN ?_ _) | (with_reducible refine Kd.C_drew ?_))); (case side2 => exact HC0.out); rintro e w23 ⟨rfl, hb⟩; refine ⟨_, rfl, ?_⟩; have n0_ := Aside0.mk (below_step (hL HB.out) hb); clear HB; have HB := n0_; clear n0_; (try clear hb); (try clear hb2); (try clear hk); (try clear hi)))
  go_ret
  exact ⟨by first | rfl | (simp [errW_none, errW_some] <;> rfl) | (simp [*, errW_none, errW_some] <;> rfl), hL HB.out⟩
 subst c5
 have H1 : ((run_Make.f k l0).bind fun t312 => ((shelfmarkref09_Make.f k l0).bind fun t315 => ((shelfmarkref09_Same.f k t312 t315).bind fun t318 => (if t318 = true then ((run_Right.f k t312).bind fun t319 => (if t319 = true then ((run_Right.f k l0).bind fun t320 => ((shelfmarkref09_Right.f k l0).bind fun t321 => (some (t320 == t321)))) else (some false))) else (some false))))) = some r := by rw [if_pos rfl] at H; exact H
 clear H
 have H := H1
 clear H1
 replace H := Option.bind_eq_some_iff.mp H
 obtain ⟨t312, A60, H⟩ := H
 replace H : ((shelfmarkref09_Make.f k l0).bind fun t315 => ((shelfmarkref09_Same.f k t312 t315).bind fun t318 => (if t318 = true then ((run_Right.f k t312).bind fun t319 => (if t319 = true then ((run_Right.f k l0).bind fun t320 => ((shelfmarkref09_Right.f k l0).bind fun t321 => (some (t320 == t321)))) else (some false))) else (some false)))) = some r := H
 have A6 := Aside0.mk A60
 clear A60
 replace H := Option.bind_eq_some_iff.mp H
 obtain ⟨t315, A70, H⟩ := H
 replace H : ((shelfmarkref09_Same.f k t312 t315).bind fun t318 => (if t318 = true then ((run_Right.f k t312).bind fun t319 => (if t319 = true then ((run_Right.f k l0).bind fun t320 => ((shelfmarkref09_Right.f k l0).bind fun t321 => (some (t320 == t321)))) else (some false))) else (some false))) = some r := H
 have A7 := Aside0.mk A70
 clear A70
 replace H := Option.bind_eq_some_iff.mp H
 obtain ⟨t318, A80, H⟩ := H
 replace H : (if t318 = true then ((run_Right.f k t312).bind fun t319 => (if t319 = true then ((run_Right.f k l0).bind fun t320 => ((shelfmarkref09_Right.f k l0).bind fun t321 => (some (t320 == t321)))) else (some false))) else (some false)) = some r := H
 have A8 := Aside0.mk A80
 clear A80
 by_cases c9 : t318 = true
 rotate_left
 ·replace c9 := Bool.eq_false_iff.mpr c9
  subst c9
  have H1 : (some false) = some r := by rw [if_neg (show ¬ (false = true) by decide)] at H; exact H
  clear H
  have H := H1
  clear H1
  obtain rfl := Option.some.inj H
  exact absurd HLAW.out (by decide)
 subst c9
 have H1 : ((run_Right.f k t312).bind fun t319 => (if t319 = true then ((run_Right.f k l0).bind fun t320 => ((shelfmarkref09_Right.f k l0).bind fun t321 => (some (t320 == t321)))) else (some false))) = some r := by rw [if_pos rfl] at H; exact H
 clear H
 have H := H1
 clear H1
 replace H := Option.bind_eq_some_iff.mp H
 obtain ⟨t319, A100, H⟩ := H
 replace H : (if t319 = true then ((run_Right.f k l0).bind fun t320 => ((shelfmarkref09_Right.f k l0).bind fun t321 => (some (t320 == t321)))) else (some false)) = some r := H
 have A10 := Aside0.mk A100
 clear A100
 by_cases c11 : t319 = true
 rotate_left
 ·replace c11 := Bool.eq_false_iff.mpr c11
  subst c11
  have H1 : (some false) = some r := by rw [if_neg (show ¬ (false = true) by decide)] at H; exact H
  clear H
  have H := H1
  clear H1
  obtain rfl := Option.some.inj H
  exact absurd HLAW.out (by decide)
 subst c11
 have H1 : ((run_Right.f k l0).bind fun t320 => ((shelfmarkref09_Right.f k l0).bind fun t321 => (some (t320 == t321)))) = some r := by rw [if_pos rfl] at H; exact H
 clear H
 have H := H1
 clear H1
 replace H := Option.bind_eq_some_iff.mp H
 obtain ⟨t320, A120, H⟩ := H
 replace H : ((shelfmarkref09_Right.f k l0).bind fun t321 => (some (t320 == t321))) = some r := H
 have A12 := Aside0.mk A120
 clear A120
 replace H := Option.bind_eq_some_iff.mp H
 obtain ⟨t321, A130, H⟩ := H
 replace H : (some (t320 == t321)) = some r := H
 have A13 := Aside0.mk A130
 clear A130
 obtain rfl := Option.some.inj H
 simp only [Option.some.injEq, Prod.mk.injEq] at H
 obtain ⟨rfl⟩ := H
 go_enter Try.func6, Try.ntmps6
 go_wp2_with (first | ((with_reducible refine gate_callee (f := 9) rfl ?_); refine goesL_ (some 4) rfl rfl Try.func9 (by kernel_rfl) rfl #[] rfl (by (try simp only [List.map_toArray, List.map_cons, List.map_nil]); first | done | rfl | (simp only [List.length_drop, List.length_take]; rfl)) ?_; (with_reducible refine (shelfmarklaw09_awake.calls k  true _ A2.out).mono ?_); rintro e w14 ⟨rfl, hb⟩; refine ⟨_, rfl, ?_⟩; have n0_ := Aside0.mk (below_step (hL HB.out) hb); clear HB; have HB := n0_; clear n0_; (try clear hb); (try clear hb2); (try clear hk); (try clear hi)) | ((with_reducible refine gate_callee (f := 15) rfl ?_); refine goesL_ (some 7) rfl rfl Try.func15 (by kernel_rfl) rfl #[.slice A0 l0.length c0, .int .i64 60] rfl (by (try simp only [List.map_toArray, List.map_cons, List.map_nil]); first | done | rfl | (simp only [List.length_drop, List.length_take]; rfl)) ?_; (with_reducible refine (shelfmarkref09_Light.calls k _ _ l0 60 true _ ?side1 ?side2 A4.out).mono ?_); (case side1 => repeat (first | exact (Kd.C_below HR0.out HB.out) | (with_reducible refine Kd.C_alloc ?_ _) | (with_reducible refine Kd.C_drewN ?_ _) | (with_reducible refine Kd.C_drew ?_))); (case side2 => exact HC0.out); rintro e w15 ⟨rfl, hb⟩; refine ⟨_, rfl, ?_⟩; have n0_ := Aside0.mk (below_step (hL HB.out) hb); clear HB; have HB := n0_; clear n0_; (try clear hb); (try clear hb2); (try clear hk); (try clear hi)) | ((with_reducible refine gate_callee (f := 27) rfl ?_); refine goesL_ (some 10) rfl rfl Try.func27 (by kernel_rfl) rfl #[.slice A0 l0.length c0] rfl (by (try simp only [List.map_toArray, List.map_cons, List.map_nil]); first | done | rfl | (simp only [List.length_drop, List.length_take]; rfl)) ?_; (with_reducible refine (run_Make.calls k _ _ l0 t312 _ ?side1 ?side2 A6.out).mono ?_); (case side1 => repeat (first | exact (Kd.C_below HR0.out HB.out) | (with_reducible refine Kd.C_alloc ?_ _) | (with_reducible refine Kd.C_drewN ?_ _) | (with_reducible refine Kd.C_drew ?_))); (case side2 => exact HC0.out); rintro e w16 ⟨v313, rfl, ho0, hb⟩; refine ⟨_, rfl, ?_⟩; have n0_ := Aside0.mk (Kd.R_lower ho0 (below_size (hL HB.out))); have n1_ := Aside0.mk (below_step (hL HB.out) hb); clear HB; have HO314 := n0_; have HB := n1_; clear n0_ n1_; (try clear hb); (try clear hb2); (try clear hk); (try clear hi); (try clear ho0)) | ((with_reducible refine gate_callee (f := 11) rfl ?_); refine goesL_ (some 13) rfl rfl Try.func11 (by kernel_rfl) rfl #[.slice A0 l0.length c0] rfl (by (try simp only [List.map_toArray, List.map_cons, List.map_nil]); first | done | rfl | (simp only [List.length_drop, List.length_take]; rfl)) ?_; (with_reducible refine (shelfmarkref09_Make.calls k _ _ l0 t315 _ ?side1 ?side2 A7.out).mono ?_); (case side1 => repeat (first | exact (Kd.C_below HR0.out HB.out) | (with_reducible refine Kd.C_alloc ?_ _) | (with_reducible refine Kd.C_drewN ?_ _) | (with_reducible refine Kd.C_drew ?_))); (case side2 => exact HC0.out); rintro e w17 ⟨v316, rfl, ho0, hb⟩; refine ⟨_, rfl, ?_⟩; have n0_ := Aside0.mk (Kd.R_elder' (rL HO314.out) (Kd.R_base ho0) hb); have n1_ := Aside0.mk (Kd.R_lower (Kd.R_new' ho0 (Kd.R_lt (rL HO314.out))) (below_size (hL HB.out))); have n2_ := Aside0.mk (below_step (hL HB.out) hb); clear HO314; clear HB; have HO314 := n0_; have HO317 := n1_; have HB := n2_; clear n0_ n1_ n2_; (try clear hb); (try clear hb2); (try clear hk); (try clear hi); (try clear ho0); obtain ⟨Ao18, co18, eo18⟩ := Kd.R_slice HO314.out; subst eo18; obtain ⟨Ao19, co19, eo19⟩ := Kd.R_slice HO317.out; subst eo19) | ((with_reducible refine gate_callee (f := 14) rfl ?_); refine goesL_ (some 14) rfl rfl Try.func14 (by kernel_rfl) rfl #[.slice Ao18 t312.length co18, .slice Ao19 t315.length co19] rfl (by (try simp only [List.map_toArray, List.map_cons, List.map_nil]); first | done | rfl | (simp only [List.length_drop, List.length_take]; rfl)) ?_; (with_reducible refine (shelfmarkref09_Same.calls k _ _ t312 _ _ t315 true _ ?side1 ?side2 ?side3 ?side4 A8.out).mono ?_); (case side1 => repeat (first | exact (Kd.R_reads' HO314.out).2.2 | (with_reducible refine Kd.C_alloc ?_ _) | (with_reducible refine Kd.C_drewN ?_ _) | (with_reducible refine Kd.C_drew ?_))); (case side2 => exact (Kd.R_reads' HO314.out).2.1); (case side3 => repeat (first | exact (Kd.R_reads' HO317.out).2.2 | (with_reducible refine Kd.C_alloc ?_ _) | (with_reducible refine Kd.C_drewN ?_ _) | (with_reducible refine Kd.C_drew ?_))); (case side4 => exact (Kd.R_reads' HO317.out).2.1); rintro e w' ⟨rfl, ⟨nd, rfl⟩⟩; refine ⟨_, rfl, ?_⟩) | (go_at_call 28; (with_reducible refine (run_Right.calls k _ _ t312 true _ ?side1 ?side2 A10.out).mono ?_); (case side1 => repeat (first | exact (Kd.R_reads' HO314.out).2.2 | (with_reducible refine Kd.C_alloc ?_ _) | (with_reducible refine Kd.C_drewN ?_ _) | (with_reducible refine Kd.C_drew ?_))); (case side2 => exact (Kd.R_reads' HO314.out).2.1); rintro e w20 ⟨rfl, hb⟩; have n0_ := Aside0.mk (Kd.R_below (rL HO314.out) hb); have n1_ := Aside0.mk (Kd.R_below (rL HO317.out) hb); have n2_ := Aside0.mk (below_step (hL HB.out) hb); clear HO314; clear HO317; clear HB; have HO314 := n0_; have HO317 := n1_; have HB := n2_; clear n0_ n1_ n2_; (try clear hb); (try clear hb2); (try clear hk); (try clear hi)) | (go_at_call 28; (with_reducible refine (run_Right.calls k _ _ l0 t320 _ ?side1 ?side2 A12.out).mono ?_); (case side1 => repeat (first | exact (Kd.C_below HR0.out HB.out) | (with_reducible refine Kd.C_alloc ?_ _) | (with_reducible refine Kd.C_drewN ?_ _) | (with_reducible refine Kd.C_drew ?_))); (case side2 => exact HC0.out); rintro e w21 ⟨rfl, hb⟩; have n0_ := Aside0.mk (Kd.R_below (rL HO314.out) hb); have n1_ := Aside0.mk (Kd.R_below (rL HO317.out) hb); have n2_ := Aside0.mk (below_step (hL HB.out) hb); clear HO314; clear HO317; clear HB; have HO314 := n0_; have HO317 := n1_; have HB := n2_; clear n0_ n1_ n2_; (try clear hb); (try clear hb2); (try clear hk); (try clear hi)) | (go_at_call 29; (with_reducible refine (shelfmarkref09_Right.calls k _ _ l0 t321 _ ?side1 ?side2 A13.out).mono ?_); (case side1 => repeat (first | exact (Kd.C_below HR0.out HB.out) | (with_reducible refine Kd.C_alloc ?_ _) | (with_reducible refine Kd.C_drewN ?_ _) | (with_reducible refine Kd.C_drew ?_))); (case side2 => exact HC0.out); rintro e w' ⟨rfl, ⟨nd, rfl⟩⟩))
 go_ret
 exact ⟨by first | rfl | (simp [errW_none, errW_some] <;> rfl) | (simp [*, errW_none, errW_some] <;> rfl), hL HB.out⟩

end Go.Proofs.Ytkkfkccfnfjbiaa.PMk
