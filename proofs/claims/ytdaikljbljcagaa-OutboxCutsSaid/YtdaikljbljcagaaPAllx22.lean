-- Written by a program of this session for this claim (mp.py, over the kit's print); Lean checks it.
import Derived.Test.YtdaikljbljcagaaPAllx0
import Derived.Test.YtdaikljbljcagaaPAllx15
namespace Go.Proofs.Ytdaikljbljcagaa.PAll
open Go.RowKit Go.Proofs.YtdaikljbljcagaaW.PrintWords Go.Proofs.YtdaikljbljcagaaW.PrintLast Go.Proofs.YtdaikljbljcagaaW.PrintMore Go.Proofs.Ytdaikljbljcagaa.Fv Go.Proofs.Ytdaikljbljcagaa.Hl
attribute [local go_sem] max2_int min2_int max_two min_two max_three min_three max_four min_four str_gtr str_leq str_geq cell_set2   -- for this text's walks alone
set_option linter.unusedVariables false
set_option linter.unusedSimpArgs false

/-! ### shelfmarklaw18_light: function 19 -/
mutual
def shelfmarklaw18_light.l0 : Nat → List (S45) → Int → Option (Bool)
 | 0, _, _ => none
 | k + 1, x0, x3 => if x3 < (x0.length : Int) then (shelfmarklaw18_light.j1 k x0 x3 (decide (x3 < 60))) else (shelfmarklaw18_light.j1 k x0 x3 false)
def shelfmarklaw18_light.j1 : Nat → List (S45) → Int → Bool → Option (Bool)
 | 0, _, _, _ => none
 | k + 1, x0, x3, x11 => if x11 = true then (if 0 ≤ x3 then (if x3 < (x0.length : Int) then ((shelfmarkref18_Light.f k ((rd_T45 x0 x3).f1) 30).bind fun t302 => (if t302 = true then (if (((rd_T45 x0 x3).f3.f0).size : Int) > 300 then (some false) else (if (((rd_T45 x0 x3).f3.f1).size : Int) > 300 then (some false) else (shelfmarklaw18_light.l0 k x0 (wrap64 (x3 + 1))))) else (some false))) else (none)) else (none)) else (some (decide ((x0.length : Int) < 60)))
end
def shelfmarklaw18_light.f (k : Nat) (l0 : List (S45)) : Option (Bool) := shelfmarklaw18_light.l0 k l0 0
theorem shelfmarklaw18_light.mono_l : ∀ k, (∀ y0 y1, LeO (shelfmarklaw18_light.l0 k y0 y1) (shelfmarklaw18_light.l0 (k + 1) y0 y1)) ∧ (∀ y0 y1 y2, LeO (shelfmarklaw18_light.j1 k y0 y1 y2) (shelfmarklaw18_light.j1 (k + 1) y0 y1 y2))
 | 0 => ⟨fun _ _ r h => by simp [shelfmarklaw18_light.l0] at h, fun _ _ _ r h => by simp [shelfmarklaw18_light.j1] at h⟩
 | k + 1 => by
  obtain ⟨ih0, ih1⟩ := shelfmarklaw18_light.mono_l k
  refine ⟨?_, ?_⟩
  ·intro y0 y1
   unfold shelfmarklaw18_light.l0
   repeat' first
   | (with_reducible exact ih0 _ _)
   | (with_reducible exact ih1 _ _ _)
   | (with_reducible exact shelfmarkref18_Light.mono _ _ _)
   | (with_reducible exact LeO.refl _)
   | (with_reducible exact LeO.none _)
   | (with_reducible refine LeO.ite ?_ ?_)
   | (with_reducible refine LeO.bind ?_ (fun _ => ?_))
   | exact ih0 _ _
   | exact ih1 _ _ _
   | exact shelfmarkref18_Light.mono _ _ _
   | exact LeO.none _
   | refine LeO.ite ?_ ?_
   | refine LeO.bind ?_ (fun _ => ?_)
  ·intro y0 y1 y2
   unfold shelfmarklaw18_light.j1
   repeat' first
   | (with_reducible exact ih0 _ _)
   | (with_reducible exact ih1 _ _ _)
   | (with_reducible exact shelfmarkref18_Light.mono _ _ _)
   | (with_reducible exact LeO.refl _)
   | (with_reducible exact LeO.none _)
   | (with_reducible refine LeO.ite ?_ ?_)
   | (with_reducible refine LeO.bind ?_ (fun _ => ?_))
   | exact ih0 _ _
   | exact ih1 _ _ _
   | exact shelfmarkref18_Light.mono _ _ _
   | exact LeO.none _
   | refine LeO.ite ?_ ?_
   | refine LeO.bind ?_ (fun _ => ?_)
theorem shelfmarklaw18_light.mono : ∀ a0 k, LeO (shelfmarklaw18_light.f k a0) (shelfmarklaw18_light.f (k + 1) a0) := by
 intro a0 k
 obtain ⟨ih0, ih1⟩ := shelfmarklaw18_light.mono_l k
 unfold shelfmarklaw18_light.f
 repeat' first
   | (with_reducible exact ih0 _ _)
   | (with_reducible exact ih1 _ _ _)
   | (with_reducible exact shelfmarkref18_Light.mono _ _ _)
   | (with_reducible exact LeO.refl _)
   | (with_reducible exact LeO.none _)
   | (with_reducible refine LeO.ite ?_ ?_)
   | (with_reducible refine LeO.bind ?_ (fun _ => ?_))
   | exact ih0 _ _
   | exact ih1 _ _ _
   | exact shelfmarkref18_Light.mono _ _ _
   | exact LeO.none _
   | refine LeO.ite ?_ ?_
   | refine LeO.bind ?_ (fun _ => ?_)
set_option maxHeartbeats 8000000 in
set_option maxRecDepth 100000 in
theorem shelfmarklaw18_light.calls (k : Nat) (A0 : Option Addr) (c0 : Nat) (l0 : List (S45)) (r : Bool) (w : World) (hr0 : Kd.C k45 w A0 l0.length l0) (hc0 : l0.length ≤ c0) (h : shelfmarklaw18_light.f k l0 = some r) :
  Calls Try.prog 19 #[.slice A0 l0.length c0] w fun e w' => e = .returned (.bool r) ∧ Drawn0 w w' := by
 have HR0 := Aside0.mk hr0
 have HC0 := Aside0.mk hc0
 clear hr0 hc0
 have H : (shelfmarklaw18_light.l0 k l0 0) = some r := h
 clear h
 have H' := Aside0.mk H
 clear H
 go_enter Try.func19, Try.ntmps19
 go_wp2
 go_loopg [3] k (fun kq v3 w' => ∃ (x3_1 : Int), v3 = .int .i64 x3_1 ∧ Aside0 (shelfmarklaw18_light.l0 kq l0 x3_1 = some r) ∧ Aside0 (kq ≤ k) ∧ Drawn0 w w')
 case atStart => exact ⟨(0), (by first | rfl | (simp; done) | (simp [*]; done) | (simp [ne_nil_bytes]; done) | (simp [eq_nil_bytes]; done)), H', ⟨Nat.le_refl _⟩, by repeat (first | exact Drawn0.refl _ | apply Drawn0.step)⟩
 clear H'
 try clear c1
 obtain ⟨x3_1, rfl, HA, HK1, ⟨m1, rfl⟩⟩ := hrel
 rcases gk with _ | k1
 ·exact absurd HA.out (by simp [shelfmarklaw18_light.l0])
 have H := HA.out
 clear HA
 simp only [shelfmarklaw18_light.l0] at H
 have HC2 := Aside0.mk H
 clear H
 go_upto_region 2 with (fail)
 go_cut [11] (fun v11 wc => ∃ (kq : Nat) (x11_1 : Bool), v11 = .bool x11_1 ∧ Aside0 (shelfmarklaw18_light.j1 kq l0 x3_1 x11_1 = some r) ∧ Aside0 (kq ≤ k1) ∧ Drawn0 w wc)
 case first =>
  have H := HC2.out
  clear HC2
  by_cases c3 : x3_1 < (l0.length : Int)
  rotate_left
  ·rw [if_neg c3] at H
   have c3b0 : decide (x3_1 < (l0.length : Int)) = false := decide_eq_false c3
   clear c3
   (first | rw [c3b0] | (simp only [i64_w, i32_w]; rw [c3b0]) | skip)
   have H' := Aside0.mk H
   clear H
   go_wp2
   go_meet
   case rel => exact ⟨_, (false), (by first | rfl | (simp; done) | (simp [*]; done) | (simp [ne_nil_bytes]; done) | (simp [eq_nil_bytes]; done)), H', ⟨by have := HK1.out; first | omega | exact Nat.le_refl _⟩, by repeat (first | exact Drawn0.refl _ | apply Drawn0.step)⟩
  rw [if_pos c3] at H
  have c3b0 : decide (x3_1 < (l0.length : Int)) = true := decide_eq_true c3
  clear c3
  (first | rw [c3b0] | (simp only [i64_w, i32_w]; rw [c3b0]) | skip)
  have H' := Aside0.mk H
  clear H
  go_wp2
  go_meet
  case rel => exact ⟨_, (decide (x3_1 < 60)), (by first | rfl | (simp; done) | (simp [*]; done) | (simp [ne_nil_bytes]; done) | (simp [eq_nil_bytes]; done)), H', ⟨by have := HK1.out; first | omega | exact Nat.le_refl _⟩, by repeat (first | exact Drawn0.refl _ | apply Drawn0.step)⟩
 clear HC2
 try clear c1
 try clear p2
 try clear c3
 try clear c3b0
 try clear c3b0z
 obtain ⟨kq, x11_1, rfl, HA, HJ1, ⟨mc1, rfl⟩⟩ := hcut
 rcases kq with _ | kj1
 ·exact absurd HA.out (by simp [shelfmarklaw18_light.j1])
 have H := HA.out
 clear HA
 simp only [shelfmarklaw18_light.j1] at H
 by_cases c4 : x11_1 = true
 rotate_left
 ·replace c4 := Bool.eq_false_iff.mpr c4
  subst c4
  have H1 : (some (decide ((l0.length : Int) < 60))) = some r := by rw [if_neg (show ¬ (false = true) by decide)] at H; exact H
  clear H
  have H := H1
  clear H1
  obtain rfl := Option.some.inj H
  simp only [Option.some.injEq, Prod.mk.injEq] at H
  obtain ⟨rfl⟩ := H
  go_wp2
  go_ret
  exact ⟨by first | rfl | (simp; done) | (simp [*]; done), by repeat (first | exact Drawn0.refl _ | apply Drawn0.step)⟩
 subst c4
 have H1 : (if 0 ≤ x3_1 then (if x3_1 < (l0.length : Int) then ((shelfmarkref18_Light.f kj1 ((rd_T45 l0 x3_1).f1) 30).bind fun t302 => (if t302 = true then (if (((rd_T45 l0 x3_1).f3.f0).size : Int) > 300 then (some false) else (if (((rd_T45 l0 x3_1).f3.f1).size : Int) > 300 then (some false) else (shelfmarklaw18_light.l0 kj1 l0 (wrap64 (x3_1 + 1))))) else (some false))) else (none)) else (none)) = some r := by rw [if_pos rfl] at H; exact H
 clear H
 have H := H1
 clear H1
 by_cases c5 : 0 ≤ x3_1
 rotate_left
 ·rw [if_neg c5] at H
  exact absurd H (by simp)
 rw [if_pos c5] at H
 have c5b0 : decide (0 ≤ x3_1) = true := decide_eq_true c5
 clear c5
 by_cases c6 : x3_1 < (l0.length : Int)
 rotate_left
 ·rw [if_neg c6] at H
  exact absurd H (by simp)
 rw [if_pos c6] at H
 have c6b0 : decide (x3_1 < (l0.length : Int)) = true := decide_eq_true c6
 clear c6
 replace H := Option.bind_eq_some_iff.mp H
 obtain ⟨t302, A70, H⟩ := H
 replace H : (if t302 = true then (if (((rd_T45 l0 x3_1).f3.f0).size : Int) > 300 then (some false) else (if (((rd_T45 l0 x3_1).f3.f1).size : Int) > 300 then (some false) else (shelfmarklaw18_light.l0 kj1 l0 (wrap64 (x3_1 + 1))))) else (some false)) = some r := H
 have A7 := Aside0.mk A70
 clear A70
 by_cases c8 : t302 = true
 rotate_left
 ·replace c8 := Bool.eq_false_iff.mpr c8
  subst c8
  have H1 : (some false) = some r := by rw [if_neg (show ¬ (false = true) by decide)] at H; exact H
  clear H
  have H := H1
  clear H1
  obtain rfl := Option.some.inj H
  simp only [Option.some.injEq, Prod.mk.injEq] at H
  obtain ⟨rfl⟩ := H
  have p301 : 0 ≤ (x3_1 : Int) := of_decide_eq_true (by first | (with_reducible assumption) | assumption)
  have q301 : x3_1 < (l0.length : Int) := of_decide_eq_true (by first | (with_reducible assumption) | assumption)
  obtain ⟨ad301, A301_1, c301_1, e301, hx301_0, hx301_1, hx301_2, hx301_3, hx301_4, hl301_1, hi301_1⟩ := at_T45 HR0.out x3_1 p301 q301
  cases e301
  have HR301_1 := Aside0.mk hi301_1
  have HC301_1 := Aside0.mk hl301_1
  clear hi301_1 hl301_1
  replace p301 := eq_true p301
  replace q301 := eq_true q301
  go_wp2_with (first | ((with_reducible refine gate_callee (f := 8) rfl ?_); refine goesL_ (some 19) rfl rfl Try.func8 (by kernel_rfl) rfl #[.slice A301_1 ((rd_T45 l0 x3_1).f1).length c301_1, .int .i64 30] rfl (by (try simp only [List.map_toArray, List.map_cons, List.map_nil]); first | done | rfl | (simp only [List.length_drop, List.length_take]; rfl)) ?_; (with_reducible refine (shelfmarkref18_Light.calls kj1 _ _ ((rd_T45 l0 x3_1).f1) 30 false _ ?side1 ?side2 A7.out).mono ?_); (case side1 => repeat (first | exact HR301_1.out | (with_reducible refine Kd.C_alloc ?_ _) | (with_reducible refine Kd.C_drewN ?_ _) | (with_reducible refine Kd.C_drew ?_))); (case side2 => exact HC301_1.out); rintro e w' ⟨rfl, ⟨nd, rfl⟩⟩; refine ⟨_, rfl, ?_⟩))
  go_ret
  exact ⟨by first | rfl | (simp; done) | (simp [*]; done), by repeat (first | exact Drawn0.refl _ | apply Drawn0.step)⟩
 subst c8
 have H1 : (if (((rd_T45 l0 x3_1).f3.f0).size : Int) > 300 then (some false) else (if (((rd_T45 l0 x3_1).f3.f1).size : Int) > 300 then (some false) else (shelfmarklaw18_light.l0 kj1 l0 (wrap64 (x3_1 + 1))))) = some r := by rw [if_pos rfl] at H; exact H
 clear H
 have H := H1
 clear H1
 by_cases c9 : (((rd_T45 l0 x3_1).f3.f0).size : Int) > 300
 ·rw [if_pos c9] at H
  have c9b0 : decide (300 < (((rd_T45 l0 x3_1).f3.f0).size : Int)) = true := decide_eq_true c9
  have c9b1 : decide (300 < ((rd_T45 l0 x3_1).f3.f0).size) = true := decide_eq_true (by omega)
  clear c9
  obtain rfl := Option.some.inj H
  simp only [Option.some.injEq, Prod.mk.injEq] at H
  obtain ⟨rfl⟩ := H
  have p301 : 0 ≤ (x3_1 : Int) := of_decide_eq_true (by first | (with_reducible assumption) | assumption)
  have q301 : x3_1 < (l0.length : Int) := of_decide_eq_true (by first | (with_reducible assumption) | assumption)
  obtain ⟨ad301, A301_1, c301_1, e301, hx301_0, hx301_1, hx301_2, hx301_3, hx301_4, hl301_1, hi301_1⟩ := at_T45 HR0.out x3_1 p301 q301
  cases e301
  have HR301_1 := Aside0.mk hi301_1
  have HC301_1 := Aside0.mk hl301_1
  clear hi301_1 hl301_1
  replace p301 := eq_true p301
  replace q301 := eq_true q301
  go_wp2_with (first | ((with_reducible refine gate_callee (f := 8) rfl ?_); refine goesL_ (some 19) rfl rfl Try.func8 (by kernel_rfl) rfl #[.slice A301_1 ((rd_T45 l0 x3_1).f1).length c301_1, .int .i64 30] rfl (by (try simp only [List.map_toArray, List.map_cons, List.map_nil]); first | done | rfl | (simp only [List.length_drop, List.length_take]; rfl)) ?_; (with_reducible refine (shelfmarkref18_Light.calls kj1 _ _ ((rd_T45 l0 x3_1).f1) 30 true _ ?side1 ?side2 A7.out).mono ?_); (case side1 => repeat (first | exact HR301_1.out | (with_reducible refine Kd.C_alloc ?_ _) | (with_reducible refine Kd.C_drewN ?_ _) | (with_reducible refine Kd.C_drew ?_))); (case side2 => exact HC301_1.out); rintro e w' ⟨rfl, ⟨nd, rfl⟩⟩; refine ⟨_, rfl, ?_⟩; have p303 : 0 ≤ (x3_1 : Int) := of_decide_eq_true (by first | (with_reducible assumption) | assumption); have q303 : x3_1 < (l0.length : Int) := of_decide_eq_true (by first | (with_reducible assumption) | assumption); obtain ⟨ad303, A303_1, c303_1, e303, hx303_0, hx303_1, hx303_2, hx303_3, hx303_4, hl303_1, hi303_1⟩ := at_T45 HR0.out x3_1 p303 q303; obtain rfl : ad301 = ad303 := (by injection e303); have HR303_1 := Aside0.mk hi303_1; have HC303_1 := Aside0.mk hl303_1; clear hi303_1 hl303_1; replace p303 := eq_true p303; replace q303 := eq_true q303; have ea_ := Option.some.inj (hx301_1.symm.trans hx303_1); injection ea_ with ea_ en_ ec_; subst ea_; subst ec_; clear en_))
  go_ret
  exact ⟨by first | rfl | (simp; done) | (simp [*]; done), by repeat (first | exact Drawn0.refl _ | apply Drawn0.step)⟩
 rw [if_neg c9] at H
 have c9b0 : decide (300 < (((rd_T45 l0 x3_1).f3.f0).size : Int)) = false := decide_eq_false c9
 have c9b1 : decide (300 < ((rd_T45 l0 x3_1).f3.f0).size) = false := decide_eq_false (by omega)
 clear c9
 by_cases c10 : (((rd_T45 l0 x3_1).f3.f1).size : Int) > 300
 ·rw [if_pos c10] at H
  have c10b0 : decide (300 < (((rd_T45 l0 x3_1).f3.f1).size : Int)) = true := decide_eq_true c10
  have c10b1 : decide (300 < ((rd_T45 l0 x3_1).f3.f1).size) = true := decide_eq_true (by omega)
  clear c10
  obtain rfl := Option.some.inj H
  simp only [Option.some.injEq, Prod.mk.injEq] at H
  obtain ⟨rfl⟩ := H
  have p301 : 0 ≤ (x3_1 : Int) := of_decide_eq_true (by first | (with_reducible assumption) | assumption)
  have q301 : x3_1 < (l0.length : Int) := of_decide_eq_true (by first | (with_reducible assumption) | assumption)
  obtain ⟨ad301, A301_1, c301_1, e301, hx301_0, hx301_1, hx301_2, hx301_3, hx301_4, hl301_1, hi301_1⟩ := at_T45 HR0.out x3_1 p301 q301
  cases e301
  have HR301_1 := Aside0.mk hi301_1
  have HC301_1 := Aside0.mk hl301_1
  clear hi301_1 hl301_1
  replace p301 := eq_true p301
  replace q301 := eq_true q301
  go_wp2_with (first | ((with_reducible refine gate_callee (f := 8) rfl ?_); refine goesL_ (some 19) rfl rfl Try.func8 (by kernel_rfl) rfl #[.slice A301_1 ((rd_T45 l0 x3_1).f1).length c301_1, .int .i64 30] rfl (by (try simp only [List.map_toArray, List.map_cons, List.map_nil]); first | done | rfl | (simp only [List.length_drop, List.length_take]; rfl)) ?_; (with_reducible refine (shelfmarkref18_Light.calls kj1 _ _ ((rd_T45 l0 x3_1).f1) 30 true _ ?side1 ?side2 A7.out).mono ?_); (case side1 => repeat (first | exact HR301_1.out | (with_reducible refine Kd.C_alloc ?_ _) | (with_reducible refine Kd.C_drewN ?_ _) | (with_reducible refine Kd.C_drew ?_))); (case side2 => exact HC301_1.out); rintro e w' ⟨rfl, ⟨nd, rfl⟩⟩; refine ⟨_, rfl, ?_⟩; have p303 : 0 ≤ (x3_1 : Int) := of_decide_eq_true (by first | (with_reducible assumption) | assumption); have q303 : x3_1 < (l0.length : Int) := of_decide_eq_true (by first | (with_reducible assumption) | assumption); obtain ⟨ad303, A303_1, c303_1, e303, hx303_0, hx303_1, hx303_2, hx303_3, hx303_4, hl303_1, hi303_1⟩ := at_T45 HR0.out x3_1 p303 q303; obtain rfl : ad301 = ad303 := (by injection e303); have HR303_1 := Aside0.mk hi303_1; have HC303_1 := Aside0.mk hl303_1; clear hi303_1 hl303_1; replace p303 := eq_true p303; replace q303 := eq_true q303; have ea_ := Option.some.inj (hx301_1.symm.trans hx303_1); injection ea_ with ea_ en_ ec_; subst ea_; subst ec_; clear en_; have p304 : 0 ≤ (x3_1 : Int) := of_decide_eq_true (by first | (with_reducible assumption) | assumption); have q304 : x3_1 < (l0.length : Int) := of_decide_eq_true (by first | (with_reducible assumption) | assumption); obtain ⟨ad304, A304_1, c304_1, e304, hx304_0, hx304_1, hx304_2, hx304_3, hx304_4, hl304_1, hi304_1⟩ := at_T45 HR0.out x3_1 p304 q304; obtain rfl : ad301 = ad304 := (by injection e304); have HR304_1 := Aside0.mk hi304_1; have HC304_1 := Aside0.mk hl304_1; clear hi304_1 hl304_1; replace p304 := eq_true p304; replace q304 := eq_true q304; have ea_ := Option.some.inj (hx301_1.symm.trans hx304_1); injection ea_ with ea_ en_ ec_; subst ea_; subst ec_; clear en_))
  go_ret
  exact ⟨by first | rfl | (simp; done) | (simp [*]; done), by repeat (first | exact Drawn0.refl _ | apply Drawn0.step)⟩
 rw [if_neg c10] at H
 have c10b0 : decide (300 < (((rd_T45 l0 x3_1).f3.f1).size : Int)) = false := decide_eq_false c10
 have c10b1 : decide (300 < ((rd_T45 l0 x3_1).f3.f1).size) = false := decide_eq_false (by omega)
 clear c10
 have H' := Aside0.mk H
 clear H
 have p301 : 0 ≤ (x3_1 : Int) := of_decide_eq_true (by first | (with_reducible assumption) | assumption)
 have q301 : x3_1 < (l0.length : Int) := of_decide_eq_true (by first | (with_reducible assumption) | assumption)
 obtain ⟨ad301, A301_1, c301_1, e301, hx301_0, hx301_1, hx301_2, hx301_3, hx301_4, hl301_1, hi301_1⟩ := at_T45 HR0.out x3_1 p301 q301
 cases e301
 have HR301_1 := Aside0.mk hi301_1
 have HC301_1 := Aside0.mk hl301_1
 clear hi301_1 hl301_1
 replace p301 := eq_true p301
 replace q301 := eq_true q301
 go_wp2_with (first | ((with_reducible refine gate_callee (f := 8) rfl ?_); refine goesL_ (some 19) rfl rfl Try.func8 (by kernel_rfl) rfl #[.slice A301_1 ((rd_T45 l0 x3_1).f1).length c301_1, .int .i64 30] rfl (by (try simp only [List.map_toArray, List.map_cons, List.map_nil]); first | done | rfl | (simp only [List.length_drop, List.length_take]; rfl)) ?_; (with_reducible refine (shelfmarkref18_Light.calls kj1 _ _ ((rd_T45 l0 x3_1).f1) 30 true _ ?side1 ?side2 A7.out).mono ?_); (case side1 => repeat (first | exact HR301_1.out | (with_reducible refine Kd.C_alloc ?_ _) | (with_reducible refine Kd.C_drewN ?_ _) | (with_reducible refine Kd.C_drew ?_))); (case side2 => exact HC301_1.out); rintro e w' ⟨rfl, ⟨nd, rfl⟩⟩; refine ⟨_, rfl, ?_⟩; have p303 : 0 ≤ (x3_1 : Int) := of_decide_eq_true (by first | (with_reducible assumption) | assumption); have q303 : x3_1 < (l0.length : Int) := of_decide_eq_true (by first | (with_reducible assumption) | assumption); obtain ⟨ad303, A303_1, c303_1, e303, hx303_0, hx303_1, hx303_2, hx303_3, hx303_4, hl303_1, hi303_1⟩ := at_T45 HR0.out x3_1 p303 q303; obtain rfl : ad301 = ad303 := (by injection e303); have HR303_1 := Aside0.mk hi303_1; have HC303_1 := Aside0.mk hl303_1; clear hi303_1 hl303_1; replace p303 := eq_true p303; replace q303 := eq_true q303; have ea_ := Option.some.inj (hx301_1.symm.trans hx303_1); injection ea_ with ea_ en_ ec_; subst ea_; subst ec_; clear en_; have p304 : 0 ≤ (x3_1 : Int) := of_decide_eq_true (by first | (with_reducible assumption) | assumption); have q304 : x3_1 < (l0.length : Int) := of_decide_eq_true (by first | (with_reducible assumption) | assumption); obtain ⟨ad304, A304_1, c304_1, e304, hx304_0, hx304_1, hx304_2, hx304_3, hx304_4, hl304_1, hi304_1⟩ := at_T45 HR0.out x3_1 p304 q304; obtain rfl : ad301 = ad304 := (by injection e304); have HR304_1 := Aside0.mk hi304_1; have HC304_1 := Aside0.mk hl304_1; clear hi304_1 hl304_1; replace p304 := eq_true p304; replace q304 := eq_true q304; have ea_ := Option.some.inj (hx301_1.symm.trans hx304_1); injection ea_ with ea_ en_ ec_; subst ea_; subst ec_; clear en_))
 go_roundg kj1
 case measure => have := HK1.out; have := HJ1.out; omega
 case rel => exact ⟨(wrap64 (x3_1 + 1)), (by first | rfl | (simp; done) | (simp [*]; done) | (simp [ne_nil_bytes]; done) | (simp [eq_nil_bytes]; done)), H', ⟨by have := HK1.out; have := HJ1.out; omega⟩, by repeat (first | exact Drawn0.refl _ | apply Drawn0.step)⟩

-- NOT PRINTED: function 44 (shelfmarkref18_Box_Done)

-- NOT PRINTED: function 45 (shelfmarkref18_Box_Due)

-- NOT PRINTED: function 64 (outbox_in)

-- NOT PRINTED: function 46 (outbox_Box_Of)

/-! ### shelfmarkref04_Within: function 65 -/
def shelfmarkref04_Within.f (a0 : ByteArray) (a1_0 : ByteArray) (a1_1 : ByteArray) : Option (Bool) := if ((Op.bytesLess a0.toList a1_0.toList) = true) then (some false) else (if a1_1.toList = ([] : List UInt8) then (some true) else (some (Op.bytesLess a0.toList a1_1.toList)))
set_option maxHeartbeats 8000000 in
set_option maxRecDepth 100000 in
theorem shelfmarkref04_Within.calls (a0 : ByteArray) (a1_0 : ByteArray) (a1_1 : ByteArray) (r : Bool) (w : World) (h : shelfmarkref04_Within.f a0 a1_0 a1_1 = some r) :
  Calls Try.prog 65 #[.string a0, .agg #[.string a1_0, .string a1_1]] w fun e w' => e = .returned (.bool r) ∧ Below w.heap.size w w' := by
 have hu43 := Try.underlying43
 have HB := Aside0.mk (Below.refl w.heap.size w)
 have H : (if ((Op.bytesLess a0.toList a1_0.toList) = true) then (some false) else (if a1_1.toList = ([] : List UInt8) then (some true) else (some (Op.bytesLess a0.toList a1_1.toList)))) = some r := h
 clear h
 by_cases c3 : ((Op.bytesLess a0.toList a1_0.toList) = true)
 ·rw [if_pos c3] at H
  have c3b0 : (Op.bytesLess a0.toList a1_0.toList) = true := c3
  clear c3
  obtain rfl := Option.some.inj H
  simp only [Option.some.injEq, Prod.mk.injEq] at H
  obtain ⟨rfl⟩ := H
  go_enter Try.func65, Try.ntmps65
  go_wp2_with (first | ((with_reducible refine gate_dst (N := 3) rfl ?_); refine box_event ?hg (N := 3) ?hd (cs := #[.string a1_0, .string a1_1]) (t := 43) ?hr ?_; (case hd => rfl); (case hg => rfl); (case hr => first | (go_simp; done) | (go_simp; rfl)); intro gb312 hg w4 hbox hb; have n0_ := Aside0.mk (below_step (hL HB.out) hb); have n1_ := Aside0.mk (hbox); have n2_ := Above.mk ((by rw [hg]; exact (below_size (hL HB.out)) : w.heap.size ≤ gb312)); have n3_ := Above.mk ((by rw [hg]; exact (below_size (hL HB.out)) : w.heap.size ≤ gb312)); clear HB; have HB := n0_; have BK312 := n1_; have GW312 := n2_; have GE312 := n3_; clear n0_ n1_ n2_ n3_; clear hb hbox hg; have hcz5_0 : w4.cell? ⟨gb312, 0, none⟩ = some (.string a1_0) := (blk_cell BK312.out 0).trans rfl; have hcz5_1 : w4.cell? ⟨gb312, 1, none⟩ = some (.string a1_1) := (blk_cell BK312.out 1).trans rfl; have hfz5_0 := blk_frozen BK312.out 0; have hfz5_1 := blk_frozen BK312.out 1))
  go_ret
  exact ⟨by first | rfl | (simp [errW_none, errW_some] <;> rfl) | (simp [*, errW_none, errW_some] <;> rfl), hL HB.out⟩
 rw [if_neg c3] at H
 have c3b0 : (Op.bytesLess a0.toList a1_0.toList) = false := by simpa using c3
 clear c3
 by_cases c6 : a1_1.toList = ([] : List UInt8)
 rotate_left
 ·rw [if_neg c6] at H
  have c6b0 : (a1_1.toList == ([] : List UInt8)) = false := beq_eq_false_iff_ne.mpr c6
  have c6b1 : (a1_1.toList != ([] : List UInt8)) = true := bne_iff_ne.mpr c6
  obtain rfl := Option.some.inj H
  simp only [Option.some.injEq, Prod.mk.injEq] at H
  obtain ⟨rfl⟩ := H
  go_enter Try.func65, Try.ntmps65
  go_wp2_with (first | ((with_reducible refine gate_dst (N := 3) rfl ?_); refine box_event ?hg (N := 3) ?hd (cs := #[.string a1_0, .string a1_1]) (t := 43) ?hr ?_; (case hd => rfl); (case hg => rfl); (case hr => first | (go_simp; done) | (go_simp; rfl)); intro gb312 hg w9 hbox hb; have n0_ := Aside0.mk (below_step (hL HB.out) hb); have n1_ := Aside0.mk (hbox); have n2_ := Above.mk ((by rw [hg]; exact (below_size (hL HB.out)) : w.heap.size ≤ gb312)); have n3_ := Above.mk ((by rw [hg]; exact (below_size (hL HB.out)) : w.heap.size ≤ gb312)); clear HB; have HB := n0_; have BK312 := n1_; have GW312 := n2_; have GE312 := n3_; clear n0_ n1_ n2_ n3_; clear hb hbox hg; have hcz10_0 : w9.cell? ⟨gb312, 0, none⟩ = some (.string a1_0) := (blk_cell BK312.out 0).trans rfl; have hcz10_1 : w9.cell? ⟨gb312, 1, none⟩ = some (.string a1_1) := (blk_cell BK312.out 1).trans rfl; have hfz10_0 := blk_frozen BK312.out 0; have hfz10_1 := blk_frozen BK312.out 1))
  go_ret
  exact ⟨by first | rfl | (simp [errW_none, errW_some] <;> rfl) | (simp [*, errW_none, errW_some] <;> rfl), hL HB.out⟩
 rw [if_pos c6] at H
 have c6b0 : (a1_1.toList == ([] : List UInt8)) = true := beq_iff_eq.mpr c6
 have c6b1 : (a1_1.toList != ([] : List UInt8)) = false := bne_eq_false_iff_eq.mpr c6
 clear c6
 obtain rfl := Option.some.inj H
 simp only [Option.some.injEq, Prod.mk.injEq] at H
 obtain ⟨rfl⟩ := H
 go_enter Try.func65, Try.ntmps65
 go_wp2_with (first | ((with_reducible refine gate_dst (N := 3) rfl ?_); refine box_event ?hg (N := 3) ?hd (cs := #[.string a1_0, .string a1_1]) (t := 43) ?hr ?_; (case hd => rfl); (case hg => rfl); (case hr => first | (go_simp; done) | (go_simp; rfl)); intro gb312 hg w7 hbox hb; have n0_ := Aside0.mk (below_step (hL HB.out) hb); have n1_ := Aside0.mk (hbox); have n2_ := Above.mk ((by rw [hg]; exact (below_size (hL HB.out)) : w.heap.size ≤ gb312)); have n3_ := Above.mk ((by rw [hg]; exact (below_size (hL HB.out)) : w.heap.size ≤ gb312)); clear HB; have HB := n0_; have BK312 := n1_; have GW312 := n2_; have GE312 := n3_; clear n0_ n1_ n2_ n3_; clear hb hbox hg; have hcz8_0 : w7.cell? ⟨gb312, 0, none⟩ = some (.string a1_0) := (blk_cell BK312.out 0).trans rfl; have hcz8_1 : w7.cell? ⟨gb312, 1, none⟩ = some (.string a1_1) := (blk_cell BK312.out 1).trans rfl; have hfz8_0 := blk_frozen BK312.out 0; have hfz8_1 := blk_frozen BK312.out 1))
 go_ret
 exact ⟨by first | rfl | (simp [errW_none, errW_some] <;> rfl) | (simp [*, errW_none, errW_some] <;> rfl), hL HB.out⟩

-- NOT PRINTED: function 47 (shelfmarkref18_Box_Of)

-- NOT PRINTED: function 48 (outbox_Box_Drop)

-- NOT PRINTED: function 49 (shelfmarkref18_Box_Drop)

-- NOT PRINTED: function 20 (shelfmarklaw18_do)

-- NOT PRINTED: function 21 (outbox_Box_Cut)

-- NOT PRINTED: function 22 (shelfmarkref18_Box_Cut)

-- NOT PRINTED: function 23 (outbox_Join)

-- NOT PRINTED: function 24 (shelfmarkref18_Join)

end Go.Proofs.Ytdaikljbljcagaa.PAll
