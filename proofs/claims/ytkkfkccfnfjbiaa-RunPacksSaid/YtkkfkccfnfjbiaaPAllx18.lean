-- Written by a program of this session for this claim (mp.py, over the kit's print); Lean checks it.
import Derived.Test.YtkkfkccfnfjbiaaPAllx0
import Derived.Test.YtkkfkccfnfjbiaaPAllx1
import Derived.Test.YtkkfkccfnfjbiaaPAllx3
import Derived.Test.YtkkfkccfnfjbiaaPAllx14
import Derived.Test.YtkkfkccfnfjbiaaPAllx15
import Derived.Test.YtkkfkccfnfjbiaaPAllx17
namespace Go.Proofs.Ytkkfkccfnfjbiaa.PAll
open Go.RowKit Go.Proofs.YtkkfkccfnfjbiaaW.PrintWords Go.Proofs.YtkkfkccfnfjbiaaW.PrintLast Go.Proofs.YtkkfkccfnfjbiaaW.PrintMore Go.Proofs.Ytkkfkccfnfjbiaa.Fv Go.Proofs.Ytkkfkccfnfjbiaa.Hl
attribute [local go_sem] max2_int min2_int max_two min_two max_three min_three max_four min_four str_gtr str_leq str_geq cell_set2   -- for this text's walks alone
set_option linter.unusedVariables false
set_option linter.unusedSimpArgs false

attribute [local go_sem high] eqA37
/-! ### shelfmarkref09_Same: function 14 -/
def shelfmarkref09_Same.l0 : Nat → List (S37) → List (S37) → Int → Option (Bool)
 | 0, _, _, _ => none
 | k + 1, x0, x1, x5 => if x5 < (x0.length : Int) then (if 0 ≤ x5 then (if x5 < (x1.length : Int) then (if (!((((rd_T37 x0 x5).f0).toList) == (((rd_T37 x1 x5).f0).toList)) || (!((((rd_T37 x0 x5).f1).toList) == (((rd_T37 x1 x5).f1).toList)) || (!(((rd_T37 x0 x5).f2) == ((rd_T37 x1 x5).f2))))) = true then (some false) else (shelfmarkref09_Same.l0 k x0 x1 (wrap64 (x5 + 1)))) else (none)) else (none)) else (some true)
def shelfmarkref09_Same.f (k : Nat) (l0 : List (S37)) (l1 : List (S37)) : Option (Bool) := if (l0.length : Int) = (l1.length : Int) then (shelfmarkref09_Same.l0 k l0 l1 0) else (some false)
theorem shelfmarkref09_Same.mono_l : ∀ k, (∀ y0 y1 y2, LeO (shelfmarkref09_Same.l0 k y0 y1 y2) (shelfmarkref09_Same.l0 (k + 1) y0 y1 y2))
 | 0 => fun _ _ _ r h => by simp [shelfmarkref09_Same.l0] at h
 | k + 1 => by
  have ih0 := shelfmarkref09_Same.mono_l k
  ·intro y0 y1 y2
   unfold shelfmarkref09_Same.l0
   repeat' first
   | (with_reducible exact ih0 _ _ _)
   | (with_reducible exact LeO.refl _)
   | (with_reducible exact LeO.none _)
   | (with_reducible refine LeO.ite ?_ ?_)
   | (with_reducible refine LeO.bind ?_ (fun _ => ?_))
   | exact ih0 _ _ _
   | exact LeO.none _
   | refine LeO.ite ?_ ?_
   | refine LeO.bind ?_ (fun _ => ?_)
theorem shelfmarkref09_Same.mono : ∀ a0 a1 k, LeO (shelfmarkref09_Same.f k a0 a1) (shelfmarkref09_Same.f (k + 1) a0 a1) := by
 intro a0 a1 k
 have ih0 := shelfmarkref09_Same.mono_l k
 unfold shelfmarkref09_Same.f
 repeat' first
   | (with_reducible exact ih0 _ _ _)
   | (with_reducible exact LeO.refl _)
   | (with_reducible exact LeO.none _)
   | (with_reducible refine LeO.ite ?_ ?_)
   | (with_reducible refine LeO.bind ?_ (fun _ => ?_))
   | exact ih0 _ _ _
   | exact LeO.none _
   | refine LeO.ite ?_ ?_
   | refine LeO.bind ?_ (fun _ => ?_)
set_option maxHeartbeats 8000000 in
set_option maxRecDepth 100000 in
theorem shelfmarkref09_Same.calls (k : Nat) (A0 : Option Addr) (c0 : Nat) (l0 : List (S37)) (A1 : Option Addr) (c1 : Nat) (l1 : List (S37)) (r : Bool) (w : World) (hr0 : Kd.C k37 w A0 l0.length l0) (hc0 : l0.length ≤ c0) (hr1 : Kd.C k37 w A1 l1.length l1) (hc1 : l1.length ≤ c1) (h : shelfmarkref09_Same.f k l0 l1 = some r) :
  Calls Try.prog 14 #[.slice A0 l0.length c0, .slice A1 l1.length c1] w fun e w' => e = .returned (.bool r) ∧ Drawn0 w w' := by
 have hu37 := Try.underlying37
 have HR0 := Aside0.mk hr0
 have HC0 := Aside0.mk hc0
 clear hr0 hc0
 have HR1 := Aside0.mk hr1
 have HC1 := Aside0.mk hc1
 clear hr1 hc1
 have H : (if (l0.length : Int) = (l1.length : Int) then (shelfmarkref09_Same.l0 k l0 l1 0) else (some false)) = some r := h
 clear h
 by_cases c3 : (l0.length : Int) = (l1.length : Int)
 rotate_left
 ·rw [if_neg c3] at H
  have c3b0 : ((l0.length : Int) == (l1.length : Int)) = false := beq_eq_false_iff_ne.mpr c3
  have c3b1 : ((l0.length : Int) != (l1.length : Int)) = true := bne_iff_ne.mpr c3
  have c3b2 : (l0.length == l1.length) = false := by first | simpa using c3 | (simp at c3 ⊢; omega)
  obtain rfl := Option.some.inj H
  simp only [Option.some.injEq, Prod.mk.injEq] at H
  obtain ⟨rfl⟩ := H
  go_enter Try.func14, Try.ntmps14
  go_wp2
  repeat (go_quiet (fail); try go_wp2)
  go_ret
  exact ⟨by first | rfl | (simp; done) | (simp [*]; done), by repeat (first | exact Drawn0.refl _ | apply Drawn0.step)⟩
 rw [if_pos c3] at H
 have c3b0 : ((l0.length : Int) == (l1.length : Int)) = true := beq_iff_eq.mpr c3
 have c3b1 : ((l0.length : Int) != (l1.length : Int)) = false := bne_eq_false_iff_eq.mpr c3
 have c3b2 : (l0.length == l1.length) = true := by first | simpa using c3 | (simp at c3 ⊢; omega)
 clear c3
 have H' := Aside0.mk H
 clear H
 go_enter Try.func14, Try.ntmps14
 go_wp2
 repeat (go_quiet (fail); try go_wp2)
 go_loopg [5] k (fun kq v5 w' => ∃ (x5_1 : Int), v5 = .int .i64 x5_1 ∧ Aside0 (shelfmarkref09_Same.l0 kq l0 l1 x5_1 = some r) ∧ Aside0 (kq ≤ k) ∧ Drawn0 w w')
 case atStart => exact ⟨(0), (by first | rfl | (simp; done) | (simp [*]; done) | (simp [ne_nil_bytes]; done) | (simp [eq_nil_bytes]; done)), H', ⟨Nat.le_refl _⟩, by repeat (first | exact Drawn0.refl _ | apply Drawn0.step)⟩
 clear H'
 try clear c1
 try clear p2
 try clear c3
 try clear c3b0
 try clear c3b0z
 try clear c3b1
 try clear c3b1z
 try clear c3b2
 try clear c3b2z
 obtain ⟨x5_1, rfl, HA, HK1, ⟨m1, rfl⟩⟩ := hrel
 rcases gk with _ | k1
 ·exact absurd HA.out (by simp [shelfmarkref09_Same.l0])
 have H := HA.out
 clear HA
 simp only [shelfmarkref09_Same.l0] at H
 by_cases c4 : x5_1 < (l0.length : Int)
 rotate_left
 ·rw [if_neg c4] at H
  have c4b0 : decide (x5_1 < (l0.length : Int)) = false := decide_eq_false c4
  clear c4
  obtain rfl := Option.some.inj H
  simp only [Option.some.injEq, Prod.mk.injEq] at H
  obtain ⟨rfl⟩ := H
  go_wp2
  repeat (go_quiet (fail); try go_wp2)
  go_ret
  exact ⟨by first | rfl | (simp; done) | (simp [*]; done), by repeat (first | exact Drawn0.refl _ | apply Drawn0.step)⟩
 rw [if_pos c4] at H
 have c4b0 : decide (x5_1 < (l0.length : Int)) = true := decide_eq_true c4
 clear c4
 by_cases c5 : 0 ≤ x5_1
 rotate_left
 ·rw [if_neg c5] at H
  exact absurd H (by simp)
 rw [if_pos c5] at H
 have c5b0 : decide (0 ≤ x5_1) = true := decide_eq_true c5
 clear c5
 by_cases c6 : x5_1 < (l1.length : Int)
 rotate_left
 ·rw [if_neg c6] at H
  exact absurd H (by simp)
 rw [if_pos c6] at H
 have c6b0 : decide (x5_1 < (l1.length : Int)) = true := decide_eq_true c6
 clear c6
 by_cases c7 : (!((((rd_T37 l0 x5_1).f0).toList) == (((rd_T37 l1 x5_1).f0).toList)) || (!((((rd_T37 l0 x5_1).f1).toList) == (((rd_T37 l1 x5_1).f1).toList)) || (!(((rd_T37 l0 x5_1).f2) == ((rd_T37 l1 x5_1).f2))))) = true
 ·rw [if_pos c7] at H
  have c7b0 : (!((((rd_T37 l0 x5_1).f0).toList) == (((rd_T37 l1 x5_1).f0).toList)) || (!((((rd_T37 l0 x5_1).f1).toList) == (((rd_T37 l1 x5_1).f1).toList)) || (!(((rd_T37 l0 x5_1).f2) == ((rd_T37 l1 x5_1).f2))))) = true := c7
  clear c7
  obtain rfl := Option.some.inj H
  simp only [Option.some.injEq, Prod.mk.injEq] at H
  obtain ⟨rfl⟩ := H
  have p311 : 0 ≤ (x5_1 : Int) := of_decide_eq_true (by first | (with_reducible assumption) | assumption)
  have q311 : x5_1 < (l0.length : Int) := of_decide_eq_true (by first | (with_reducible assumption) | assumption)
  obtain ⟨ad311, e311, hx311_0, hx311_1, hx311_2⟩ := at_T37 HR0.out x5_1 p311 q311
  cases e311
  replace p311 := eq_true p311
  replace q311 := eq_true q311
  have p312 : 0 ≤ (x5_1 : Int) := of_decide_eq_true (by first | (with_reducible assumption) | assumption)
  have q312 : x5_1 < (l1.length : Int) := of_decide_eq_true (by first | (with_reducible assumption) | assumption)
  obtain ⟨ad312, e312, hx312_0, hx312_1, hx312_2⟩ := at_T37 HR1.out x5_1 p312 q312
  cases e312
  replace p312 := eq_true p312
  replace q312 := eq_true q312
  go_wp2
  repeat (go_quiet (fail); try go_wp2)
  go_ret
  exact ⟨by first | rfl | (simp; done) | (simp [*]; done), by repeat (first | exact Drawn0.refl _ | apply Drawn0.step)⟩
 rw [if_neg c7] at H
 have c7b0 : (!((((rd_T37 l0 x5_1).f0).toList) == (((rd_T37 l1 x5_1).f0).toList)) || (!((((rd_T37 l0 x5_1).f1).toList) == (((rd_T37 l1 x5_1).f1).toList)) || (!(((rd_T37 l0 x5_1).f2) == ((rd_T37 l1 x5_1).f2))))) = false := by simpa using c7
 clear c7
 have H' := Aside0.mk H
 clear H
 have p311 : 0 ≤ (x5_1 : Int) := of_decide_eq_true (by first | (with_reducible assumption) | assumption)
 have q311 : x5_1 < (l0.length : Int) := of_decide_eq_true (by first | (with_reducible assumption) | assumption)
 obtain ⟨ad311, e311, hx311_0, hx311_1, hx311_2⟩ := at_T37 HR0.out x5_1 p311 q311
 cases e311
 replace p311 := eq_true p311
 replace q311 := eq_true q311
 have p312 : 0 ≤ (x5_1 : Int) := of_decide_eq_true (by first | (with_reducible assumption) | assumption)
 have q312 : x5_1 < (l1.length : Int) := of_decide_eq_true (by first | (with_reducible assumption) | assumption)
 obtain ⟨ad312, e312, hx312_0, hx312_1, hx312_2⟩ := at_T37 HR1.out x5_1 p312 q312
 cases e312
 replace p312 := eq_true p312
 replace q312 := eq_true q312
 go_wp2
 repeat (go_quiet (fail); try go_wp2)
 go_roundg k1
 case measure => have := HK1.out; omega
 case rel => exact ⟨(wrap64 (x5_1 + 1)), (by first | rfl | (simp; done) | (simp [*]; done) | (simp [ne_nil_bytes]; done) | (simp [eq_nil_bytes]; done)), H', ⟨by have := HK1.out; omega⟩, by repeat (first | exact Drawn0.refl _ | apply Drawn0.step)⟩

/-! ### shelfmarklaw09_RunMerges: function 3 -/
def shelfmarklaw09_RunMerges.l0 : Nat → List (List (S37)) → Bool → List (List (S37)) → Int → Option (Bool)
 | 0, _, _, _, _ => none
 | k + 1, x0, x1, x5, x6 => if x6 < (x0.length : Int) then (if x1 = true then (if 0 ≤ x6 then ((shelfmarkref09_Make.f k (rd_L4 x0 x6)).bind fun t316 => (if x5.length < 5864062014805 then (shelfmarklaw09_RunMerges.l0 k x0 x1 (x5 ++ [t316]) (wrap64 (x6 + 1))) else (none))) else (none)) else (if 0 ≤ x6 then (if x5.length < 5864062014805 then (shelfmarklaw09_RunMerges.l0 k x0 x1 (x5 ++ [rd_L4 x0 x6]) (wrap64 (x6 + 1))) else (none)) else (none))) else ((run_Merge.f k x5).bind fun bt326 => ((shelfmarkref09_Merge.f k x5).bind fun bt330 => ((shelfmarkref09_Same.f k bt326.1 bt330.1).bind fun t334 => (if t334 = true then (some (bt326.2 == bt330.2)) else (some false)))))
def shelfmarklaw09_RunMerges.f (k : Nat) (l0 : List (List (S37))) (a1 : Bool) : Option (Bool) := (shelfmarklaw09_awake.f k).bind fun t313 => (if t313 = true then ((shelfmarklaw09_light.f k l0).bind fun t314 => (if t314 = true then (shelfmarklaw09_RunMerges.l0 k l0 a1 ([] : List (List (S37))) 0) else (some true))) else (some false))
theorem shelfmarklaw09_RunMerges.mono_l : ∀ k, (∀ y0 y1 y2 y3, LeO (shelfmarklaw09_RunMerges.l0 k y0 y1 y2 y3) (shelfmarklaw09_RunMerges.l0 (k + 1) y0 y1 y2 y3))
 | 0 => fun _ _ _ _ r h => by simp [shelfmarklaw09_RunMerges.l0] at h
 | k + 1 => by
  have ih0 := shelfmarklaw09_RunMerges.mono_l k
  ·intro y0 y1 y2 y3
   unfold shelfmarklaw09_RunMerges.l0
   repeat' first
   | (with_reducible exact ih0 _ _ _ _)
   | (with_reducible exact run_Merge.mono _ _)
   | (with_reducible exact shelfmarklaw09_awake.mono _)
   | (with_reducible exact shelfmarklaw09_light.mono _ _)
   | (with_reducible exact shelfmarkref09_Make.mono _ _)
   | (with_reducible exact shelfmarkref09_Merge.mono _ _)
   | (with_reducible exact shelfmarkref09_Same.mono _ _ _)
   | (with_reducible exact LeO.refl _)
   | (with_reducible exact LeO.none _)
   | (with_reducible refine LeO.ite ?_ ?_)
   | (with_reducible refine LeO.bind ?_ (fun _ => ?_))
   | exact ih0 _ _ _ _
   | exact run_Merge.mono _ _
   | exact shelfmarklaw09_awake.mono _
   | exact shelfmarklaw09_light.mono _ _
   | exact shelfmarkref09_Make.mono _ _
   | exact shelfmarkref09_Merge.mono _ _
   | exact shelfmarkref09_Same.mono _ _ _
   | exact LeO.none _
   | refine LeO.ite ?_ ?_
   | refine LeO.bind ?_ (fun _ => ?_)
theorem shelfmarklaw09_RunMerges.mono : ∀ a0 a1 k, LeO (shelfmarklaw09_RunMerges.f k a0 a1) (shelfmarklaw09_RunMerges.f (k + 1) a0 a1) := by
 intro a0 a1 k
 have ih0 := shelfmarklaw09_RunMerges.mono_l k
 unfold shelfmarklaw09_RunMerges.f
 repeat' first
   | (with_reducible exact ih0 _ _ _ _)
   | (with_reducible exact run_Merge.mono _ _)
   | (with_reducible exact shelfmarklaw09_awake.mono _)
   | (with_reducible exact shelfmarklaw09_light.mono _ _)
   | (with_reducible exact shelfmarkref09_Make.mono _ _)
   | (with_reducible exact shelfmarkref09_Merge.mono _ _)
   | (with_reducible exact shelfmarkref09_Same.mono _ _ _)
   | (with_reducible exact LeO.refl _)
   | (with_reducible exact LeO.none _)
   | (with_reducible refine LeO.ite ?_ ?_)
   | (with_reducible refine LeO.bind ?_ (fun _ => ?_))
   | exact ih0 _ _ _ _
   | exact run_Merge.mono _ _
   | exact shelfmarklaw09_awake.mono _
   | exact shelfmarklaw09_light.mono _ _
   | exact shelfmarkref09_Make.mono _ _
   | exact shelfmarkref09_Merge.mono _ _
   | exact shelfmarkref09_Same.mono _ _ _
   | exact LeO.none _
   | refine LeO.ite ?_ ?_
   | refine LeO.bind ?_ (fun _ => ?_)
set_option maxHeartbeats 8000000 in
set_option maxRecDepth 100000 in
theorem shelfmarklaw09_RunMerges.calls (k : Nat) (P0_ : Nat → Prop) (A0 : Option Addr) (c0 : Nat) (l0 : List (List (S37))) (a1 : Bool) (r : Bool) (w : World) (hs0 : Kd.V (Kd.slice 37 k37) 25 w w.heap.size (fun k_ => P0_ k_) (.slice A0 l0.length c0) l0) (h : shelfmarklaw09_RunMerges.f k l0 a1 = some r) (hlaw : r = true) :
  Calls Try.prog 3 #[.slice A0 l0.length c0, .bool a1] w fun e w' => e = .returned (.bool r) ∧ Below w.heap.size w w' := by
 have HLAW := Aside0.mk hlaw
 clear hlaw
 have HO0 := Aside0.mk (show Kd.V (Kd.slice 37 k37) 25 w w.heap.size (fun k_ => (P0_ k_ ∨ w.heap.size ≤ k_)) (.slice A0 l0.length c0) l0 from Kd.V_mono hs0 (fun k_ hk => .inl hk))
 have HB := Aside0.mk (Below.refl w.heap.size w)
 have H : ((shelfmarklaw09_awake.f k).bind fun t313 => (if t313 = true then ((shelfmarklaw09_light.f k l0).bind fun t314 => (if t314 = true then (shelfmarklaw09_RunMerges.l0 k l0 a1 ([] : List (List (S37))) 0) else (some true))) else (some false))) = some r := h
 clear h
 replace H := Option.bind_eq_some_iff.mp H
 obtain ⟨t313, A30, H⟩ := H
 replace H : (if t313 = true then ((shelfmarklaw09_light.f k l0).bind fun t314 => (if t314 = true then (shelfmarklaw09_RunMerges.l0 k l0 a1 ([] : List (List (S37))) 0) else (some true))) else (some false)) = some r := H
 have A3 := Aside0.mk A30
 clear A30
 by_cases c4 : t313 = true
 rotate_left
 ·replace c4 := Bool.eq_false_iff.mpr c4
  subst c4
  have H1 : (some false) = some r := by rw [if_neg (show ¬ (false = true) by decide)] at H; exact H
  clear H
  have H := H1
  clear H1
  obtain rfl := Option.some.inj H
  exact absurd HLAW.out (by decide)
 subst c4
 have H1 : ((shelfmarklaw09_light.f k l0).bind fun t314 => (if t314 = true then (shelfmarklaw09_RunMerges.l0 k l0 a1 ([] : List (List (S37))) 0) else (some true))) = some r := by rw [if_pos rfl] at H; exact H
 clear H
 have H := H1
 clear H1
 replace H := Option.bind_eq_some_iff.mp H
 obtain ⟨t314, A50, H⟩ := H
 replace H : (if t314 = true then (shelfmarklaw09_RunMerges.l0 k l0 a1 ([] : List (List (S37))) 0) else (some true)) = some r := H
 have A5 := Aside0.mk A50
 clear A50
 by_cases c6 : t314 = true
 rotate_left
 ·replace c6 := Bool.eq_false_iff.mpr c6
  subst c6
  have H1 : (some true) = some r := by rw [if_neg (show ¬ (false = true) by decide)] at H; exact H
  clear H
  have H := H1
  clear H1
  obtain rfl := Option.some.inj H
  simp only [Option.some.injEq, Prod.mk.injEq] at H
  obtain ⟨rfl⟩ := H
  go_enter Try.func3, Try.ntmps3
  go_wp2_with (first | ((with_reducible refine gate_callee (f := 9) rfl ?_); refine goesL_ (some 11) rfl rfl Try.func9 (by kernel_rfl) rfl #[] rfl (by (try simp only [List.map_toArray, List.map_cons, List.map_nil]); first | done | rfl | (simp only [List.length_drop, List.length_take]; rfl)) ?_; (with_reducible refine (shelfmarklaw09_awake.calls k  true _ A3.out).mono ?_); rintro e w29 ⟨rfl, hb⟩; refine ⟨_, rfl, ?_⟩; have n0_ := Aside0.mk (Kd.V_below (vL HO0.out) hb); have n1_ := Aside0.mk (below_step (hL HB.out) hb); clear HO0; clear HB; have HO0 := n0_; have HB := n1_; clear n0_ n1_; (try clear hb); (try clear hb2); (try clear hk); (try clear hi)) | ((with_reducible refine gate_callee (f := 10) rfl ?_); refine goesL_ (some 14) rfl rfl Try.func10 (by kernel_rfl) rfl #[.slice A0 l0.length c0] rfl (by (try simp only [List.map_toArray, List.map_cons, List.map_nil]); first | done | rfl | (simp only [List.length_drop, List.length_take]; rfl)) ?_; (with_reducible refine (shelfmarklaw09_light.calls k _ _ l0 false _ ?side1 ?side2 A5.out).mono ?_); (case side1 => repeat (first | exact (Kd.V_reads' HO0.out).2.2 | (with_reducible refine Kd.C_alloc ?_ _) | (with_reducible refine Kd.C_drewN ?_ _) | (with_reducible refine Kd.C_drew ?_))); (case side2 => exact (Kd.V_reads' HO0.out).2.1); rintro e w30 ⟨rfl, hb⟩; refine ⟨_, rfl, ?_⟩; have n0_ := Aside0.mk (Kd.V_below (vL HO0.out) hb); have n1_ := Aside0.mk (below_step (hL HB.out) hb); clear HO0; clear HB; have HO0 := n0_; have HB := n1_; clear n0_ n1_; (try clear hb); (try clear hb2); (try clear hk); (try clear hi)))
  go_ret
  exact ⟨by first | rfl | (simp [errW_none, errW_some] <;> rfl) | (simp [*, errW_none, errW_some] <;> rfl), hL HB.out⟩
 subst c6
 have H1 : (shelfmarklaw09_RunMerges.l0 k l0 a1 ([] : List (List (S37))) 0) = some r := by rw [if_pos rfl] at H; exact H
 clear H
 have H := H1
 clear H1
 have H' := Aside0.mk H
 clear H
 go_enter Try.func3, Try.ntmps3
 go_wp2_with (first | ((with_reducible refine gate_callee (f := 9) rfl ?_); refine goesL_ (some 11) rfl rfl Try.func9 (by kernel_rfl) rfl #[] rfl (by (try simp only [List.map_toArray, List.map_cons, List.map_nil]); first | done | rfl | (simp only [List.length_drop, List.length_take]; rfl)) ?_; (with_reducible refine (shelfmarklaw09_awake.calls k  true _ A3.out).mono ?_); rintro e w7 ⟨rfl, hb⟩; refine ⟨_, rfl, ?_⟩; have n0_ := Aside0.mk (Kd.V_below (vL HO0.out) hb); have n1_ := Aside0.mk (below_step (hL HB.out) hb); clear HO0; clear HB; have HO0 := n0_; have HB := n1_; clear n0_ n1_; (try clear hb); (try clear hb2); (try clear hk); (try clear hi)) | ((with_reducible refine gate_callee (f := 10) rfl ?_); refine goesL_ (some 14) rfl rfl Try.func10 (by kernel_rfl) rfl #[.slice A0 l0.length c0] rfl (by (try simp only [List.map_toArray, List.map_cons, List.map_nil]); first | done | rfl | (simp only [List.length_drop, List.length_take]; rfl)) ?_; (with_reducible refine (shelfmarklaw09_light.calls k _ _ l0 true _ ?side1 ?side2 A5.out).mono ?_); (case side1 => repeat (first | exact (Kd.V_reads' HO0.out).2.2 | (with_reducible refine Kd.C_alloc ?_ _) | (with_reducible refine Kd.C_drewN ?_ _) | (with_reducible refine Kd.C_drew ?_))); (case side2 => exact (Kd.V_reads' HO0.out).2.1); rintro e w8 ⟨rfl, hb⟩; refine ⟨_, rfl, ?_⟩; have n0_ := Aside0.mk (Kd.V_below (vL HO0.out) hb); have n1_ := Aside0.mk (below_step (hL HB.out) hb); clear HO0; clear HB; have HO0 := n0_; have HB := n1_; clear n0_ n1_; (try clear hb); (try clear hb2); (try clear hk); (try clear hi)))
 go_loopg [5, 6] k (fun kq v5 v6 w' => ∃ (x5_1 : List (List (S37))) (x6_1 : Int), v6 = .int .i64 x6_1 ∧ Aside0 (shelfmarklaw09_RunMerges.l0 kq l0 a1 x5_1 x6_1 = some r) ∧ Aside0 (kq ≤ k) ∧ Aside0 (Kd.V (Kd.slice 37 k37) 25 w' w.heap.size (fun k_ => (P0_ k_ ∨ w.heap.size ≤ k_) ∧ some k_ ≠ (v5 : Value).ownBlock) (.slice A0 l0.length c0) l0) ∧ Aside0 (Kd.N (Kd.slice 37 k37) 25 w' w.heap.size (fun k_ => (P0_ k_ ∨ w.heap.size ≤ k_)) v5 x5_1) ∧ Aside0 (Below w.heap.size w w'))
 case atStart => exact ⟨(([] : List (List (S37)))), (0), (by first | rfl | (simp; done) | (simp [*]; done) | (simp [ne_nil_bytes]; done) | (simp [eq_nil_bytes]; done)), H', ⟨Nat.le_refl _⟩, ⟨by (with_reducible repeat (first | apply Kd.V_alloc | apply Kd.V_drewN | apply Kd.V_drew)); exact Kd.V_mono HO0.out (fun _ hk => ⟨hk, (by simp [Value.ownBlock])⟩)⟩, ⟨by first | exact Kd.S_nil _ _ _ _ _ | exact Kd.N_nil _ _ _ _ _ | exact Kd.V_nil _ _ _ _ _ | exact Kd.Q_nil _ _ _ _ _ | exact Kd.R_nil _ _ _ _ _⟩, ⟨hL HB.out⟩⟩
 clear H'
 try clear c1
 try clear p2
 try clear c3
 try clear c4
 try clear c6
 obtain ⟨x5_1, x6_1, rfl, HA, HK1, HO_0, HO_5, HB⟩ := hrel
 rcases gk with _ | k1
 ·exact absurd HA.out (by simp [shelfmarklaw09_RunMerges.l0])
 have H := HA.out
 clear HA
 simp only [shelfmarklaw09_RunMerges.l0] at H
 by_cases c9 : x6_1 < (l0.length : Int)
 rotate_left
 ·rw [if_neg c9] at H
  have c9b0 : decide (x6_1 < (l0.length : Int)) = false := decide_eq_false c9
  clear c9
  replace H := Option.bind_eq_some_iff.mp H
  obtain ⟨⟨t326, t327⟩, A200, H⟩ := H
  replace H : ((shelfmarkref09_Merge.f k1 x5_1).bind fun bt330 => ((shelfmarkref09_Same.f k1 t326 bt330.1).bind fun t334 => (if t334 = true then (some (t327 == bt330.2)) else (some false)))) = some r := H
  have A20 := Aside0.mk A200
  clear A200
  replace H := Option.bind_eq_some_iff.mp H
  obtain ⟨⟨t330, t331⟩, A210, H⟩ := H
  replace H : ((shelfmarkref09_Same.f k1 t326 t330).bind fun t334 => (if t334 = true then (some (t327 == t331)) else (some false))) = some r := H
  have A21 := Aside0.mk A210
  clear A210
  replace H := Option.bind_eq_some_iff.mp H
  obtain ⟨t334, A220, H⟩ := H
  replace H : (if t334 = true then (some (t327 == t331)) else (some false)) = some r := H
  have A22 := Aside0.mk A220
  clear A220
  by_cases c23 : t334 = true
  rotate_left
  ·replace c23 := Bool.eq_false_iff.mpr c23
   subst c23
   have H1 : (some false) = some r := by rw [if_neg (show ¬ (false = true) by decide)] at H; exact H
   clear H
   have H := H1
   clear H1
   obtain rfl := Option.some.inj H
   exact absurd HLAW.out (by decide)
  subst c23
  have H1 : (some (t327 == t331)) = some r := by rw [if_pos rfl] at H; exact H
  clear H
  have H := H1
  clear H1
  obtain rfl := Option.some.inj H
  simp only [Option.some.injEq, Prod.mk.injEq] at H
  obtain ⟨rfl⟩ := H
  obtain ⟨Ao24, co24, eo24⟩ := Kd.N_slice HO_5.out
  subst eo24
  go_wp2_with (first | ((with_reducible refine gate_callee (f := 12) rfl ?_); refine goesL_ (some 40) rfl rfl Try.func12 (by kernel_rfl) rfl #[.slice Ao24 x5_1.length co24] rfl (by (try simp only [List.map_toArray, List.map_cons, List.map_nil]); first | done | rfl | (simp only [List.length_drop, List.length_take]; rfl)) ?_; (with_reducible refine (run_Merge.calls k1 _ _ x5_1 t326 t327 _ ?side1 ?side2 A20.out).mono ?_); (case side1 => repeat (first | exact (Kd.N_reads' HO_5.out).2.2 | (with_reducible refine Kd.C_alloc ?_ _) | (with_reducible refine Kd.C_drewN ?_ _) | (with_reducible refine Kd.C_drew ?_))); (case side2 => exact (Kd.N_reads' HO_5.out).2.1); rintro e w25 ⟨v328, rfl, ho0, hb⟩; refine ⟨_, rfl, ?_⟩; have n0_ := Aside0.mk (Kd.V_elder' (vL HO_0.out) (Kd.R_base ho0) hb); have n1_ := Aside0.mk (Kd.N_elder' (nL HO_5.out) (Kd.R_base ho0) hb); have n2_ := Aside0.mk (Kd.R_lower (Kd.R_newM (M := fun k_ => (w.heap.size ≤ k_)) ho0 (below_size (hL HB.out)) (fun k_ h_ => h_)) (below_size (hL HB.out))); have n3_ := Aside0.mk (below_step (hL HB.out) hb); clear HO_0; clear HO_5; clear HB; have HO_0 := n0_; have HO_5 := n1_; have HO329 := n2_; have HB := n3_; clear n0_ n1_ n2_ n3_; (try clear hb); (try clear hb2); (try clear hk); (try clear hi); (try clear ho0)) | ((with_reducible refine gate_callee (f := 13) rfl ?_); refine goesL_ (some 45) rfl rfl Try.func13 (by kernel_rfl) rfl #[.slice Ao24 x5_1.length co24] rfl (by (try simp only [List.map_toArray, List.map_cons, List.map_nil]); first | done | rfl | (simp only [List.length_drop, List.length_take]; rfl)) ?_; (with_reducible refine (shelfmarkref09_Merge.calls k1 _ _ x5_1 t330 t331 _ ?side1 ?side2 A21.out).mono ?_); (case side1 => repeat (first | exact (Kd.N_reads' HO_5.out).2.2 | (with_reducible refine Kd.C_alloc ?_ _) | (with_reducible refine Kd.C_drewN ?_ _) | (with_reducible refine Kd.C_drew ?_))); (case side2 => exact (Kd.N_reads' HO_5.out).2.1); rintro e w26 ⟨v332, rfl, ho0, hb⟩; refine ⟨_, rfl, ?_⟩; have n0_ := Aside0.mk (Kd.V_elder' (vL HO_0.out) (Kd.R_base ho0) hb); have n1_ := Aside0.mk (Kd.N_elder' (nL HO_5.out) (Kd.R_base ho0) hb); have n2_ := Aside0.mk (Kd.R_elder' (rL HO329.out) (Kd.R_base ho0) hb); have n3_ := Aside0.mk (Kd.R_lower (Kd.R_new' (Kd.R_newM (M := fun k_ => (w.heap.size ≤ k_)) ho0 (below_size (hL HB.out)) (fun k_ h_ => h_)) (Kd.R_lt (rL HO329.out))) (below_size (hL HB.out))); have n4_ := Aside0.mk (below_step (hL HB.out) hb); clear HO_0; clear HO_5; clear HO329; clear HB; have HO_0 := n0_; have HO_5 := n1_; have HO329 := n2_; have HO333 := n3_; have HB := n4_; clear n0_ n1_ n2_ n3_ n4_; (try clear hb); (try clear hb2); (try clear hk); (try clear hi); (try clear ho0); obtain ⟨Ao27, co27, eo27⟩ := Kd.R_slice HO329.out; subst eo27; obtain ⟨Ao28, co28, eo28⟩ := Kd.R_slice HO333.out; subst eo28) | ((with_reducible refine gate_callee (f := 14) rfl ?_); refine goesL_ (some 50) rfl rfl Try.func14 (by kernel_rfl) rfl #[.slice Ao27 t326.length co27, .slice Ao28 t330.length co28] rfl (by (try simp only [List.map_toArray, List.map_cons, List.map_nil]); first | done | rfl | (simp only [List.length_drop, List.length_take]; rfl)) ?_; (with_reducible refine (shelfmarkref09_Same.calls k1 _ _ t326 _ _ t330 true _ ?side1 ?side2 ?side3 ?side4 A22.out).mono ?_); (case side1 => repeat (first | exact (Kd.R_reads' HO329.out).2.2 | (with_reducible refine Kd.C_alloc ?_ _) | (with_reducible refine Kd.C_drewN ?_ _) | (with_reducible refine Kd.C_drew ?_))); (case side2 => exact (Kd.R_reads' HO329.out).2.1); (case side3 => repeat (first | exact (Kd.R_reads' HO333.out).2.2 | (with_reducible refine Kd.C_alloc ?_ _) | (with_reducible refine Kd.C_drewN ?_ _) | (with_reducible refine Kd.C_drew ?_))); (case side4 => exact (Kd.R_reads' HO333.out).2.1); rintro e w' ⟨rfl, ⟨nd, rfl⟩⟩; refine ⟨_, rfl, ?_⟩))
  go_ret
  exact ⟨by first | rfl | (simp [errW_none, errW_some] <;> rfl) | (simp [*, errW_none, errW_some] <;> rfl), hL HB.out⟩
 rw [if_pos c9] at H
 have c9b0 : decide (x6_1 < (l0.length : Int)) = true := decide_eq_true c9
 clear c9
 by_cases c10 : a1 = true
 rotate_left
 ·replace c10 := Bool.eq_false_iff.mpr c10
  subst c10
  have H1 : (if 0 ≤ x6_1 then (if x5_1.length < 5864062014805 then (shelfmarklaw09_RunMerges.l0 k1 l0 false (x5_1 ++ [rd_L4 l0 x6_1]) (wrap64 (x6_1 + 1))) else (none)) else (none)) = some r := by rw [if_neg (show ¬ (false = true) by decide)] at H; exact H
  clear H
  have H := H1
  clear H1
  by_cases c17 : 0 ≤ x6_1
  rotate_left
  ·rw [if_neg c17] at H
   exact absurd H (by simp)
  rw [if_pos c17] at H
  have c17b0 : decide (0 ≤ x6_1) = true := decide_eq_true c17
  clear c17
  by_cases c18 : x5_1.length < 5864062014805
  rotate_left
  ·rw [if_neg c18] at H
   exact absurd H (by simp)
  rw [if_pos c18] at H
  have LMc18 := Aside0.mk c18
  clear c18
  obtain ⟨y323, hy323⟩ : ∃ y_ : List (List (S37)), y_ = (x5_1 ++ [rd_L4 l0 x6_1]) := ⟨_, rfl⟩
  replace H : (shelfmarklaw09_RunMerges.l0 k1 l0 false y323 (wrap64 (x6_1 + 1))) = some r := by first | (rw [hy323]; with_reducible exact H) | (have H2_ := (Option.bind_some _ _).symm.trans H; rw [hy323]; with_reducible exact H2_) | (have H2_ := (Option.bind_some _ _).symm.trans H; with_reducible exact H2_) | with_reducible exact H | (rw [hy323]; exact H) | exact H
  have Ny323 := Aside0.mk hy323
  clear hy323
  have H' := Aside0.mk H
  clear H
  have p322 : 0 ≤ (x6_1 : Int) := of_decide_eq_true (by first | (with_reducible assumption) | assumption)
  have q322 : x6_1 < (l0.length : Int) := of_decide_eq_true (by first | (with_reducible assumption) | assumption)
  obtain ⟨ad322, A322_0, c322_0, e322, hx322_0, hl322_0, hi322_0⟩ := at_L4 (Kd.V_reads' HO_0.out).2.2 x6_1 p322 q322
  cases e322
  obtain ⟨ce322, hce322, hMe322, hcc322⟩ := Kd.V_get HO_0.out [] x6_1 p322 (by first | exact q322 | exact of_decide_eq_true (by first | (with_reducible assumption) | assumption) | (have e_ := (Kd.V_reads' HO_0.out).1; omega))
  obtain ⟨ua322_0, uc322_0, rfl, ul322_0, ge322_0⟩ := Kd.FK_slice_open hMe322
  have hv322_0 := hcc322 0 _ rfl
  rw [Nat.add_zero, show ((Kd.slice 37 k37)).sz = 1 from rfl, Nat.mul_one] at hv322_0
  replace hv322_0 := Option.some.inj (hv322_0.symm.trans hx322_0)
  injection hv322_0 with hva_ hvn_ hvc_
  rw [hva_] at ge322_0
  rw [hvc_] at ul322_0
  have HL322_0 := Aside0.mk (show Kd.V k37 37 _ w.heap.size _ _ (rd_L4 l0 x6_1) from Kd.V_mk ul322_0 ge322_0)
  clear hva_ hvn_ hvc_ ge322_0 ul322_0
  clear hcc322 hce322
  have HR322_0 := Aside0.mk hi322_0
  have HC322_0 := Aside0.mk hl322_0
  clear hi322_0 hl322_0
  replace p322 := eq_true p322
  replace q322 := eq_true q322
  go_wp2_with (first | ((with_reducible refine gate_builtin (b := .append) (xs := #[.tmp 31, .tmp 36]) rfl ?_); at_builtin; refine Kd.N_append (Kd.slice 37 k37) (w0 := w) w.heap.size rfl (.tmp 31) (.tmp 36) 22 25 (.slice none 0 0) 24 rfl Try.underlying22 info25 rfl (by decide) (by omega) u5 x5_1 (rd_L4 l0 x6_1) [.slice A322_0 (rd_L4 l0 x6_1).length c322_0] (fun k_ => (P0_ k_ ∨ w.heap.size ≤ k_)) (fun k_ => ((fun k_ => (P0_ k_ ∨ w.heap.size ≤ k_))) k_ ∧ some k_ ≠ (u5 : Value).ownBlock) rfl rfl ?aP (fun _ hk => hk) ?aF ?aO ?aB ?aS ?aL ?_; (case aP => exact (Kd.FK_slice_mk (Kd.V_reads' (Kd.V_mono (ok' := (fun k_ => ((fun k_ => (P0_ k_ ∨ w.heap.size ≤ k_))) k_ ∧ some k_ ≠ (u5 : Value).ownBlock)) (HL322_0.out) (fun k_ hk => ⟨hk.1, hk.2⟩))).2.1 (Kd.V_F (Kd.V_mono (ok' := (fun k_ => ((fun k_ => (P0_ k_ ∨ w.heap.size ≤ k_))) k_ ∧ some k_ ≠ (u5 : Value).ownBlock)) (HL322_0.out) (fun k_ hk => ⟨hk.1, hk.2⟩))))); (case aB => exact (hL HB.out)); (case aF => exact (fun k_ hk => (.inr (Nat.le_trans (below_size (hL HB.out)) hk)))); (case aO => exact (nL HO_5.out)); (case aS => exact (below_size (hL HB.out))); (case aL => have := LMc18.out; omega); intro v324 w19 ho hb hg hat; rw [← Ny323.out] at ho; have n0_ := Aside0.mk (Kd.V_afterv (ok := (fun k_ => (P0_ k_ ∨ w.heap.size ≤ k_))) (vL HO_0.out) hg hat); have n1_ := Aside0.mk (Kd.V_afterv (ok := (fun k_ => (P0_ k_ ∨ w.heap.size ≤ k_))) (vL HL322_0.out) hg hat); have n2_ := Aside0.mk (hb); have n3_ := Aside0.mk (ho); clear HO_0; clear HL322_0; clear HB; clear HO_5; have HO_0 := n0_; have HL322_0 := n1_; have HB := n2_; have HO325 := n3_; clear n0_ n1_ n2_ n3_; clear ho hb hg hat))
  go_roundg k1
  case measure => have := HK1.out; omega
  case rel => exact ⟨(y323), (wrap64 (x6_1 + 1)), (by first | rfl | (simp; done) | (simp [*]; done) | (simp [ne_nil_bytes]; done) | (simp [eq_nil_bytes]; done)), H', ⟨by have := HK1.out; omega⟩, ⟨by exact vL HO_0.out⟩, ⟨by exact nL HO325.out⟩, ⟨hL HB.out⟩⟩
 subst c10
 have H1 : (if 0 ≤ x6_1 then ((shelfmarkref09_Make.f k1 (rd_L4 l0 x6_1)).bind fun t316 => (if x5_1.length < 5864062014805 then (shelfmarklaw09_RunMerges.l0 k1 l0 true (x5_1 ++ [t316]) (wrap64 (x6_1 + 1))) else (none))) else (none)) = some r := by rw [if_pos rfl] at H; exact H
 clear H
 have H := H1
 clear H1
 by_cases c11 : 0 ≤ x6_1
 rotate_left
 ·rw [if_neg c11] at H
  exact absurd H (by simp)
 rw [if_pos c11] at H
 have c11b0 : decide (0 ≤ x6_1) = true := decide_eq_true c11
 clear c11
 replace H := Option.bind_eq_some_iff.mp H
 obtain ⟨t316, A120, H⟩ := H
 replace H : (if x5_1.length < 5864062014805 then (shelfmarklaw09_RunMerges.l0 k1 l0 true (x5_1 ++ [t316]) (wrap64 (x6_1 + 1))) else (none)) = some r := H
 have A12 := Aside0.mk A120
 clear A120
 by_cases c13 : x5_1.length < 5864062014805
 rotate_left
 ·rw [if_neg c13] at H
  exact absurd H (by simp)
 rw [if_pos c13] at H
 have LMc13 := Aside0.mk c13
 clear c13
 obtain ⟨y319, hy319⟩ : ∃ y_ : List (List (S37)), y_ = (x5_1 ++ [t316]) := ⟨_, rfl⟩
 replace H : (shelfmarklaw09_RunMerges.l0 k1 l0 true y319 (wrap64 (x6_1 + 1))) = some r := by first | (rw [hy319]; with_reducible exact H) | (have H2_ := (Option.bind_some _ _).symm.trans H; rw [hy319]; with_reducible exact H2_) | (have H2_ := (Option.bind_some _ _).symm.trans H; with_reducible exact H2_) | with_reducible exact H | (rw [hy319]; exact H) | exact H
 have Ny319 := Aside0.mk hy319
 clear hy319
 have H' := Aside0.mk H
 clear H
 have p315 : 0 ≤ (x6_1 : Int) := of_decide_eq_true (by first | (with_reducible assumption) | assumption)
 have q315 : x6_1 < (l0.length : Int) := of_decide_eq_true (by first | (with_reducible assumption) | assumption)
 obtain ⟨ad315, A315_0, c315_0, e315, hx315_0, hl315_0, hi315_0⟩ := at_L4 (Kd.V_reads' HO_0.out).2.2 x6_1 p315 q315
 cases e315
 obtain ⟨ce315, hce315, hMe315, hcc315⟩ := Kd.V_get HO_0.out [] x6_1 p315 (by first | exact q315 | exact of_decide_eq_true (by first | (with_reducible assumption) | assumption) | (have e_ := (Kd.V_reads' HO_0.out).1; omega))
 obtain ⟨ua315_0, uc315_0, rfl, ul315_0, ge315_0⟩ := Kd.FK_slice_open hMe315
 have hv315_0 := hcc315 0 _ rfl
 rw [Nat.add_zero, show ((Kd.slice 37 k37)).sz = 1 from rfl, Nat.mul_one] at hv315_0
 replace hv315_0 := Option.some.inj (hv315_0.symm.trans hx315_0)
 injection hv315_0 with hva_ hvn_ hvc_
 rw [hva_] at ge315_0
 rw [hvc_] at ul315_0
 have HL315_0 := Aside0.mk (show Kd.V k37 37 _ w.heap.size _ _ (rd_L4 l0 x6_1) from Kd.V_mk ul315_0 ge315_0)
 clear hva_ hvn_ hvc_ ge315_0 ul315_0
 clear hcc315 hce315
 have HR315_0 := Aside0.mk hi315_0
 have HC315_0 := Aside0.mk hl315_0
 clear hi315_0 hl315_0
 replace p315 := eq_true p315
 replace q315 := eq_true q315
 go_wp2_with (first | ((with_reducible refine gate_callee (f := 11) rfl ?_); refine goesL_ (some 28) rfl rfl Try.func11 (by kernel_rfl) rfl #[.slice A315_0 (rd_L4 l0 x6_1).length c315_0] rfl (by (try simp only [List.map_toArray, List.map_cons, List.map_nil]); first | done | rfl | (simp only [List.length_drop, List.length_take]; rfl)) ?_; (with_reducible refine (shelfmarkref09_Make.calls k1 _ _ (rd_L4 l0 x6_1) t316 _ ?side1 ?side2 A12.out).mono ?_); (case side1 => repeat (first | exact (by repeat (first | (with_reducible exact HR315_0.out) | (with_reducible refine Kd.C_alloc ?_ _) | (with_reducible refine Kd.C_drewN ?_ _) | (with_reducible refine Kd.C_drew ?_) | exact HR315_0.out)) | (with_reducible refine Kd.C_alloc ?_ _) | (with_reducible refine Kd.C_drewN ?_ _) | (with_reducible refine Kd.C_drew ?_))); (case side2 => exact HC315_0.out); rintro e w14 ⟨v317, rfl, ho0, hb⟩; refine ⟨_, rfl, ?_⟩; have n0_ := Aside0.mk (Kd.V_elder' (vL HO_0.out) (Kd.R_base ho0) hb); have n1_ := Aside0.mk (Kd.N_elder' (nL HO_5.out) (Kd.R_base ho0) hb); have n2_ := Aside0.mk (Kd.V_elder' (vL HL315_0.out) (Kd.R_base ho0) hb); have n3_ := Aside0.mk (Kd.R_lower (Kd.R_newM (M := fun k_ => (w.heap.size ≤ k_)) ho0 (below_size (hL HB.out)) (fun k_ h_ => h_)) (below_size (hL HB.out))); have n4_ := Aside0.mk (Kd.C_below (by repeat (first | (with_reducible exact HR315_0.out) | (with_reducible refine Kd.C_alloc ?_ _) | (with_reducible refine Kd.C_drewN ?_ _) | (with_reducible refine Kd.C_drew ?_) | exact HR315_0.out)) hb); have n5_ := Aside0.mk (below_step (hL HB.out) hb); clear HO_0; clear HO_5; clear HL315_0; clear HR315_0; clear HB; have HO_0 := n0_; have HO_5 := n1_; have HL315_0 := n2_; have HO318 := n3_; have HR315_0 := n4_; have HB := n5_; clear n0_ n1_ n2_ n3_ n4_ n5_; (try clear hb); (try clear hb2); (try clear hk); (try clear hi); (try clear ho0); obtain ⟨Ao16, co16, eo16⟩ := Kd.R_slice HO318.out; subst eo16) | ((with_reducible refine gate_builtin (b := .append) (xs := #[.tmp 23, .tmp 29]) rfl ?_); at_builtin; refine Kd.N_append (Kd.slice 37 k37) (w0 := w) w.heap.size rfl (.tmp 23) (.tmp 29) 22 25 (.slice none 0 0) 24 rfl Try.underlying22 info25 rfl (by decide) (by omega) u5 x5_1 t316 [.slice Ao16 t316.length co16] (fun k_ => (P0_ k_ ∨ w.heap.size ≤ k_)) (fun k_ => ((fun k_ => (P0_ k_ ∨ w.heap.size ≤ k_))) k_ ∧ some k_ ≠ (u5 : Value).ownBlock) rfl rfl ?aP (fun _ hk => hk) ?aF ?aO ?aB ?aS ?aL ?_; (case aP => exact (Kd.FK_slice_mk (Kd.R_reads' (Kd.R_mono (ok' := (fun k_ => ((fun k_ => (P0_ k_ ∨ w.heap.size ≤ k_))) k_ ∧ some k_ ≠ (u5 : Value).ownBlock)) (Kd.R_apart' (HO318.out) (Kd.N_typed HO_5.out) (by decide)) (fun k_ hk => ⟨(.inr (hk.1.1)), hk.2⟩))).2.1 (Kd.R_F (Kd.R_mono (ok' := (fun k_ => ((fun k_ => (P0_ k_ ∨ w.heap.size ≤ k_))) k_ ∧ some k_ ≠ (u5 : Value).ownBlock)) (Kd.R_apart' (HO318.out) (Kd.N_typed HO_5.out) (by decide)) (fun k_ hk => ⟨(.inr (hk.1.1)), hk.2⟩))))); (case aB => exact (hL HB.out)); (case aF => exact (fun k_ hk => (.inr (Nat.le_trans (below_size (hL HB.out)) hk)))); (case aO => exact (by (with_reducible repeat (first | apply Kd.N_alloc | apply Kd.N_drewN | apply Kd.N_drew)); exact Kd.N_mono HO_5.out (fun _ hk => hk.1))); (case aS => exact (below_size (hL HB.out))); (case aL => have := LMc13.out; omega); intro v320 w15 ho hb hg hat; rw [← Ny319.out] at ho; have n0_ := Aside0.mk (Kd.V_afterv (ok := (fun k_ => (P0_ k_ ∨ w.heap.size ≤ k_) ∧ some k_ ≠ (.slice Ao16 t316.length co16 : Value).ownBlock)) (by (with_reducible repeat (first | apply Kd.V_alloc | apply Kd.V_drewN | apply Kd.V_drew)); exact Kd.V_mono HO_0.out (fun _ hk => ⟨⟨hk.1.1, hk.2⟩, hk.1.2⟩)) hg hat); have n1_ := Aside0.mk (Kd.V_afterv (ok := (fun k_ => (P0_ k_ ∨ w.heap.size ≤ k_) ∧ some k_ ≠ (.slice Ao16 t316.length co16 : Value).ownBlock)) (by (with_reducible repeat (first | apply Kd.V_alloc | apply Kd.V_drewN | apply Kd.V_drew)); exact Kd.V_mono HL315_0.out (fun _ hk => ⟨⟨hk.1.1, hk.2⟩, hk.1.2⟩)) hg hat); have n2_ := Aside0.mk (hb); have n3_ := Aside0.mk (ho); clear HO_0; clear HL315_0; clear HB; clear HO_5; clear HO318; have HO_0 := n0_; have HL315_0 := n1_; have HB := n2_; have HO321 := n3_; clear n0_ n1_ n2_ n3_; clear ho hb hg hat))
 go_roundg k1
 case measure => have := HK1.out; omega
 case rel => exact ⟨(y319), (wrap64 (x6_1 + 1)), (by first | rfl | (simp; done) | (simp [*]; done) | (simp [ne_nil_bytes]; done) | (simp [eq_nil_bytes]; done)), H', ⟨by have := HK1.out; omega⟩, ⟨by (with_reducible repeat (first | apply Kd.V_alloc | apply Kd.V_drewN | apply Kd.V_drew)); exact Kd.V_mono HO_0.out (fun _ hk => ⟨hk.1.1, hk.2⟩)⟩, ⟨by exact nL HO321.out⟩, ⟨hL HB.out⟩⟩

/-! ### run_seek_1: function 53 -/
def run_seek_1.f (a0_0 : ByteArray) (a0_1 : ByteArray) (a0_2 : Bool) (a1 : ByteArray) : Option (Int) := (cmp_Compare_string.f a0_0 a1).bind fun t336 => (some t336)
set_option maxHeartbeats 8000000 in
set_option maxRecDepth 100000 in
theorem run_seek_1.calls (a0_0 : ByteArray) (a0_1 : ByteArray) (a0_2 : Bool) (a1 : ByteArray) (r : Int) (w : World) (h : run_seek_1.f a0_0 a0_1 a0_2 a1 = some r) :
  Calls Try.prog 53 #[.agg #[.string a0_0, .string a0_1, .bool a0_2], .string a1] w fun e w' => e = .returned (.int .i64 r) ∧ Below w.heap.size w w' := by
 have hu37 := Try.underlying37
 have HB := Aside0.mk (Below.refl w.heap.size w)
 have H : ((cmp_Compare_string.f a0_0 a1).bind fun t336 => (some t336)) = some r := h
 clear h
 replace H := Option.bind_eq_some_iff.mp H
 obtain ⟨t336, A30, H⟩ := H
 replace H : (some t336) = some r := H
 have A3 := Aside0.mk A30
 clear A30
 obtain rfl := Option.some.inj H
 simp only [Option.some.injEq, Prod.mk.injEq] at H
 obtain ⟨rfl⟩ := H
 go_enter Try.func53, Try.ntmps53
 go_wp2_with (first | ((with_reducible refine gate_dst (N := 2) rfl ?_); refine box_event ?hg (N := 2) ?hd (cs := #[.string a0_0, .string a0_1, .bool a0_2]) (t := 37) ?hr ?_; (case hd => rfl); (case hg => rfl); (case hr => first | (go_simp; done) | (go_simp; rfl)); intro gb335 hg w4 hbox hb; have n0_ := Aside0.mk (below_step (hL HB.out) hb); have n1_ := Aside0.mk (hbox); have n2_ := Above.mk ((by rw [hg]; exact (below_size (hL HB.out)) : w.heap.size ≤ gb335)); have n3_ := Above.mk ((by rw [hg]; exact (below_size (hL HB.out)) : w.heap.size ≤ gb335)); clear HB; have HB := n0_; have BK335 := n1_; have GW335 := n2_; have GE335 := n3_; clear n0_ n1_ n2_ n3_; clear hb hbox hg; have hcz5_0 : w4.cell? ⟨gb335, 0, none⟩ = some (.string a0_0) := (blk_cell BK335.out 0).trans rfl; have hcz5_1 : w4.cell? ⟨gb335, 1, none⟩ = some (.string a0_1) := (blk_cell BK335.out 1).trans rfl; have hcz5_2 : w4.cell? ⟨gb335, 2, none⟩ = some (.bool a0_2) := (blk_cell BK335.out 2).trans rfl; have hfz5_0 := blk_frozen BK335.out 0; have hfz5_1 := blk_frozen BK335.out 1; have hfz5_2 := blk_frozen BK335.out 2) | ((with_reducible refine gate_callee (f := 54) rfl ?_); refine goesL_ (some 8) rfl rfl Try.func54 (by kernel_rfl) rfl #[.string a0_0, .string a1] rfl (by (try simp only [List.map_toArray, List.map_cons, List.map_nil]); first | done | rfl | (simp only [List.length_drop, List.length_take]; rfl)) ?_; (with_reducible refine (cmp_Compare_string.calls a0_0 a1 t336 _ A3.out).mono ?_); rintro e w' ⟨rfl, ⟨nd, rfl⟩⟩; refine ⟨_, rfl, ?_⟩))
 go_ret
 exact ⟨by first | rfl | (simp [errW_none, errW_some] <;> rfl) | (simp [*, errW_none, errW_some] <;> rfl), hL HB.out⟩

/-! ### run_seek_1_v24: what a variable holds -/
abbrev run_seek_1_v24.f := @run_seek_1.f
theorem run_seek_1_v24.calls : type_of% @run_seek_1.calls := @run_seek_1.calls

/-! ### run_seek_1_v40: what a variable holds -/
abbrev run_seek_1_v40.f := @run_seek_1.f
theorem run_seek_1_v40.calls : type_of% @run_seek_1.calls := @run_seek_1.calls

end Go.Proofs.Ytkkfkccfnfjbiaa.PAll
