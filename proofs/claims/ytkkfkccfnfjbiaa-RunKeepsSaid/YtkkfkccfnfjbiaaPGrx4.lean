-- Written by a program of this session for this claim (mp.py, over the kit's print); Lean checks it.
import Derived.Test.YtkkfkccfnfjbiaaPGrx0
namespace Go.Proofs.Ytkkfkccfnfjbiaa.PGr
open Go.RowKit Go.Proofs.YtkkfkccfnfjbiaaW.PrintWords Go.Proofs.YtkkfkccfnfjbiaaW.PrintLast Go.Proofs.YtkkfkccfnfjbiaaW.PrintMore Go.Proofs.Ytkkfkccfnfjbiaa.Fv Go.Proofs.Ytkkfkccfnfjbiaa.Hl
attribute [local go_sem] max2_int min2_int max_two min_two max_three min_three max_four min_four str_gtr str_leq str_geq cell_set2   -- for this text's walks alone
set_option linter.unusedVariables false
set_option linter.unusedSimpArgs false

/-! ### shelfmarkref09_Light: function 15 -/
def shelfmarkref09_Light.l0 : Nat → List (S37) → Int → Int → Option (Bool)
 | 0, _, _, _ => none
 | k + 1, x0, x5, x6 => if x6 < (x0.length : Int) then (if x5 ≤ 4000 then (if 0 ≤ x6 then (shelfmarkref09_Light.l0 k x0 (wrap64 ((wrap64 (x5 + (mn (((rd_T37 x0 x6).f0).size : Int) 4001))) + (mn (((rd_T37 x0 x6).f1).size : Int) 4001))) (wrap64 (x6 + 1))) else (none)) else (some (decide (x5 ≤ 4000)))) else (some (decide (x5 ≤ 4000)))
def shelfmarkref09_Light.f (k : Nat) (l0 : List (S37)) (a1 : Int) : Option (Bool) := if (l0.length : Int) > a1 then (some false) else (shelfmarkref09_Light.l0 k l0 0 0)
theorem shelfmarkref09_Light.mono_l : ∀ k, (∀ y0 y1 y2, LeO (shelfmarkref09_Light.l0 k y0 y1 y2) (shelfmarkref09_Light.l0 (k + 1) y0 y1 y2))
 | 0 => fun _ _ _ r h => by simp [shelfmarkref09_Light.l0] at h
 | k + 1 => by
  have ih0 := shelfmarkref09_Light.mono_l k
  ·intro y0 y1 y2
   unfold shelfmarkref09_Light.l0
   repeat' first
   | (with_reducible exact ih0 _ _ _)
   | (with_reducible exact LeO.refl _)
   | (with_reducible exact LeO.none _)
   | (with_reducible refine LeO.ite ?_ ?_)
   | (with_reducible refine LeO.bind ?_ (fun _ => ?_))
   | exact ih0 _ _ _
   | exact LeO.none _
   | refine LeO.ite ?_ ?_
   | refine LeO.bind ?_ (fun _ => ?_)
theorem shelfmarkref09_Light.mono : ∀ a0 a1 k, LeO (shelfmarkref09_Light.f k a0 a1) (shelfmarkref09_Light.f (k + 1) a0 a1) := by
 intro a0 a1 k
 have ih0 := shelfmarkref09_Light.mono_l k
 unfold shelfmarkref09_Light.f
 repeat' first
   | (with_reducible exact ih0 _ _ _)
   | (with_reducible exact LeO.refl _)
   | (with_reducible exact LeO.none _)
   | (with_reducible refine LeO.ite ?_ ?_)
   | (with_reducible refine LeO.bind ?_ (fun _ => ?_))
   | exact ih0 _ _ _
   | exact LeO.none _
   | refine LeO.ite ?_ ?_
   | refine LeO.bind ?_ (fun _ => ?_)
set_option maxHeartbeats 8000000 in
set_option maxRecDepth 100000 in
theorem shelfmarkref09_Light.calls (k : Nat) (A0 : Option Addr) (c0 : Nat) (l0 : List (S37)) (a1 : Int) (r : Bool) (w : World) (hr0 : Kd.C k37 w A0 l0.length l0) (hc0 : l0.length ≤ c0) (h : shelfmarkref09_Light.f k l0 a1 = some r) :
  Calls Try.prog 15 #[.slice A0 l0.length c0, .int .i64 a1] w fun e w' => e = .returned (.bool r) ∧ Below w.heap.size w w' := by
 have HR0 := Aside0.mk hr0
 have HC0 := Aside0.mk hc0
 clear hr0 hc0
 have HB := Aside0.mk (Below.refl w.heap.size w)
 have H : (if (l0.length : Int) > a1 then (some false) else (shelfmarkref09_Light.l0 k l0 0 0)) = some r := h
 clear h
 by_cases c3 : (l0.length : Int) > a1
 ·rw [if_pos c3] at H
  have c3b0 : decide (a1 < (l0.length : Int)) = true := decide_eq_true c3
  clear c3
  obtain rfl := Option.some.inj H
  simp only [Option.some.injEq, Prod.mk.injEq] at H
  obtain ⟨rfl⟩ := H
  go_enter Try.func15, Try.ntmps15
  go_wp2
  repeat (go_quiet (fail); try go_wp2)
  go_ret
  exact ⟨by first | rfl | (simp [errW_none, errW_some] <;> rfl) | (simp [*, errW_none, errW_some] <;> rfl), hL HB.out⟩
 rw [if_neg c3] at H
 have c3b0 : decide (a1 < (l0.length : Int)) = false := decide_eq_false c3
 clear c3
 have H' := Aside0.mk H
 clear H
 go_enter Try.func15, Try.ntmps15
 go_wp2
 repeat (go_quiet (fail); try go_wp2)
 go_loopg [5, 6] k (fun kq v5 v6 w' => ∃ (x5_1 : Int) (x6_1 : Int), v5 = .int .i64 x5_1 ∧ v6 = .int .i64 x6_1 ∧ Aside0 (shelfmarkref09_Light.l0 kq l0 x5_1 x6_1 = some r) ∧ Aside0 (kq ≤ k) ∧ Aside0 (Below w.heap.size w w'))
 case atStart => exact ⟨(0), (0), (by first | rfl | (simp; done) | (simp [*]; done) | (simp [ne_nil_bytes]; done) | (simp [eq_nil_bytes]; done)), (by first | rfl | (simp; done) | (simp [*]; done) | (simp [ne_nil_bytes]; done) | (simp [eq_nil_bytes]; done)), H', ⟨Nat.le_refl _⟩, ⟨hL HB.out⟩⟩
 clear H'
 try clear c1
 try clear p2
 try clear c3
 try clear c3b0
 try clear c3b0z
 obtain ⟨x5_1, x6_1, rfl, rfl, HA, HK1, HB⟩ := hrel
 rcases gk with _ | k1
 ·exact absurd HA.out (by simp [shelfmarkref09_Light.l0])
 have H := HA.out
 clear HA
 simp only [shelfmarkref09_Light.l0] at H
 by_cases c4 : x6_1 < (l0.length : Int)
 rotate_left
 ·rw [if_neg c4] at H
  have c4b0 : decide (x6_1 < (l0.length : Int)) = false := decide_eq_false c4
  clear c4
  obtain rfl := Option.some.inj H
  simp only [Option.some.injEq, Prod.mk.injEq] at H
  obtain ⟨rfl⟩ := H
  go_wp2
  repeat (go_quiet (fail); try go_wp2)
  go_ret
  exact ⟨by first | rfl | (simp [errW_none, errW_some] <;> rfl) | (simp [*, errW_none, errW_some] <;> rfl), hL HB.out⟩
 rw [if_pos c4] at H
 have c4b0 : decide (x6_1 < (l0.length : Int)) = true := decide_eq_true c4
 clear c4
 by_cases c5 : x5_1 ≤ 4000
 rotate_left
 ·rw [if_neg c5] at H
  have c5b0 : decide (x5_1 ≤ 4000) = false := decide_eq_false c5
  clear c5
  obtain rfl := Option.some.inj H
  simp only [Option.some.injEq, Prod.mk.injEq] at H
  obtain ⟨rfl⟩ := H
  go_wp2
  repeat (go_quiet (fail); try go_wp2)
  go_ret
  exact ⟨by first | rfl | (simp [errW_none, errW_some] <;> rfl) | (simp [*, errW_none, errW_some] <;> rfl), hL HB.out⟩
 rw [if_pos c5] at H
 have c5b0 : decide (x5_1 ≤ 4000) = true := decide_eq_true c5
 clear c5
 by_cases c6 : 0 ≤ x6_1
 rotate_left
 ·rw [if_neg c6] at H
  exact absurd H (by simp)
 rw [if_pos c6] at H
 have c6b0 : decide (0 ≤ x6_1) = true := decide_eq_true c6
 clear c6
 obtain ⟨ji7, hji7⟩ : ∃ j_ : Int, (mn (((rd_T37 l0 x6_1).f0).size : Int) 4001) = j_ := ⟨_, rfl⟩
 replace H : (shelfmarkref09_Light.l0 k1 l0 (wrap64 ((wrap64 (x5_1 + (ji7))) + (mn (((rd_T37 l0 x6_1).f1).size : Int) 4001))) (wrap64 (x6_1 + 1))) = some r := by first | (rw [hji7] at H; exact H) | (simp only [hji7] at H ⊢; exact H)
 have hji7_ : (if 4001 < (((rd_T37 l0 x6_1).f0).size : Int) then 4001 else (((rd_T37 l0 x6_1).f0).size : Int)) = ji7 := hji7
 obtain ⟨ji8, hji8⟩ : ∃ j_ : Int, (mn (((rd_T37 l0 x6_1).f1).size : Int) 4001) = j_ := ⟨_, rfl⟩
 replace H : (shelfmarkref09_Light.l0 k1 l0 (wrap64 ((wrap64 (x5_1 + (ji7))) + (ji8))) (wrap64 (x6_1 + 1))) = some r := by first | (rw [hji8] at H; exact H) | (simp only [hji8] at H ⊢; exact H)
 have hji8_ : (if 4001 < (((rd_T37 l0 x6_1).f1).size : Int) then 4001 else (((rd_T37 l0 x6_1).f1).size : Int)) = ji8 := hji8
 have H' := Aside0.mk H
 clear H
 have p121 : 0 ≤ (x6_1 : Int) := of_decide_eq_true (by first | (with_reducible assumption) | assumption)
 have q121 : x6_1 < (l0.length : Int) := of_decide_eq_true (by first | (with_reducible assumption) | assumption)
 obtain ⟨ad121, e121, hx121_0, hx121_1, hx121_2⟩ := at_T37 HR0.out x6_1 p121 q121
 cases e121
 replace hx121_0 := (HB.out.cell (World.block_lt_of_cell? w _ hx121_0)).trans hx121_0
 replace hx121_1 := (HB.out.cell (World.block_lt_of_cell? w _ hx121_1)).trans hx121_1
 replace hx121_2 := (HB.out.cell (World.block_lt_of_cell? w _ hx121_2)).trans hx121_2
 replace p121 := eq_true p121
 replace q121 := eq_true q121
 have p122 : 0 ≤ (x6_1 : Int) := of_decide_eq_true (by first | (with_reducible assumption) | assumption)
 have q122 : x6_1 < (l0.length : Int) := of_decide_eq_true (by first | (with_reducible assumption) | assumption)
 obtain ⟨ad122, e122, hx122_0, hx122_1, hx122_2⟩ := at_T37 HR0.out x6_1 p122 q122
 obtain rfl : ad121 = ad122 := (by injection e122)
 replace hx122_0 := (HB.out.cell (World.block_lt_of_cell? w _ hx122_0)).trans hx122_0
 replace hx122_1 := (HB.out.cell (World.block_lt_of_cell? w _ hx122_1)).trans hx122_1
 replace hx122_2 := (HB.out.cell (World.block_lt_of_cell? w _ hx122_2)).trans hx122_2
 replace p122 := eq_true p122
 replace q122 := eq_true q122
 go_wp2
 repeat (go_quiet (fail); try go_wp2)
 go_roundg k1
 case measure => have := HK1.out; omega
 case rel => exact ⟨(wrap64 ((wrap64 (x5_1 + (ji7))) + (ji8))), (wrap64 (x6_1 + 1)), (by first | rfl | (simp; done) | (simp only [← hji7, ← hji8] <;> (first | rfl | simp)) | (simp [*]; done)), (by first | rfl | (simp; done) | (simp [*]; done) | (simp [ne_nil_bytes]; done) | (simp [eq_nil_bytes]; done)), H', ⟨by have := HK1.out; omega⟩, ⟨hL HB.out⟩⟩

/-! ### shelfmarklaw09_light: function 10 -/
def shelfmarklaw09_light.l0 : Nat → List (List (S37)) → Int → Option (Bool)
 | 0, _, _ => none
 | k + 1, x0, x3 => if x3 < (x0.length : Int) then (if 0 ≤ x3 then ((shelfmarkref09_Light.f k (rd_L3 x0 x3) 60).bind fun t124 => (if t124 = true then (shelfmarklaw09_light.l0 k x0 (wrap64 (x3 + 1))) else (some false))) else (none)) else (some true)
def shelfmarklaw09_light.f (k : Nat) (l0 : List (List (S37))) : Option (Bool) := if (l0.length : Int) > 10 then (some false) else (shelfmarklaw09_light.l0 k l0 0)
theorem shelfmarklaw09_light.mono_l : ∀ k, (∀ y0 y1, LeO (shelfmarklaw09_light.l0 k y0 y1) (shelfmarklaw09_light.l0 (k + 1) y0 y1))
 | 0 => fun _ _ r h => by simp [shelfmarklaw09_light.l0] at h
 | k + 1 => by
  have ih0 := shelfmarklaw09_light.mono_l k
  ·intro y0 y1
   unfold shelfmarklaw09_light.l0
   repeat' first
   | (with_reducible exact ih0 _ _)
   | (with_reducible exact shelfmarkref09_Light.mono _ _ _)
   | (with_reducible exact LeO.refl _)
   | (with_reducible exact LeO.none _)
   | (with_reducible refine LeO.ite ?_ ?_)
   | (with_reducible refine LeO.bind ?_ (fun _ => ?_))
   | exact ih0 _ _
   | exact shelfmarkref09_Light.mono _ _ _
   | exact LeO.none _
   | refine LeO.ite ?_ ?_
   | refine LeO.bind ?_ (fun _ => ?_)
theorem shelfmarklaw09_light.mono : ∀ a0 k, LeO (shelfmarklaw09_light.f k a0) (shelfmarklaw09_light.f (k + 1) a0) := by
 intro a0 k
 have ih0 := shelfmarklaw09_light.mono_l k
 unfold shelfmarklaw09_light.f
 repeat' first
   | (with_reducible exact ih0 _ _)
   | (with_reducible exact shelfmarkref09_Light.mono _ _ _)
   | (with_reducible exact LeO.refl _)
   | (with_reducible exact LeO.none _)
   | (with_reducible refine LeO.ite ?_ ?_)
   | (with_reducible refine LeO.bind ?_ (fun _ => ?_))
   | exact ih0 _ _
   | exact shelfmarkref09_Light.mono _ _ _
   | exact LeO.none _
   | refine LeO.ite ?_ ?_
   | refine LeO.bind ?_ (fun _ => ?_)
set_option maxHeartbeats 8000000 in
set_option maxRecDepth 100000 in
theorem shelfmarklaw09_light.calls (k : Nat) (A0 : Option Addr) (c0 : Nat) (l0 : List (List (S37))) (r : Bool) (w : World) (hr0 : Kd.C (Kd.slice 37 k37) w A0 l0.length l0) (hc0 : l0.length ≤ c0) (h : shelfmarklaw09_light.f k l0 = some r) :
  Calls Try.prog 10 #[.slice A0 l0.length c0] w fun e w' => e = .returned (.bool r) ∧ Below w.heap.size w w' := by
 have HR0 := Aside0.mk hr0
 have HC0 := Aside0.mk hc0
 clear hr0 hc0
 have HB := Aside0.mk (Below.refl w.heap.size w)
 have H : (if (l0.length : Int) > 10 then (some false) else (shelfmarklaw09_light.l0 k l0 0)) = some r := h
 clear h
 by_cases c2 : (l0.length : Int) > 10
 ·rw [if_pos c2] at H
  have c2b0 : decide (10 < (l0.length : Int)) = true := decide_eq_true c2
  have c2b1 : decide (10 < l0.length) = true := decide_eq_true (by omega)
  clear c2
  obtain rfl := Option.some.inj H
  simp only [Option.some.injEq, Prod.mk.injEq] at H
  obtain ⟨rfl⟩ := H
  go_enter Try.func10, Try.ntmps10
  go_wp2
  go_ret
  exact ⟨by first | rfl | (simp [errW_none, errW_some] <;> rfl) | (simp [*, errW_none, errW_some] <;> rfl), hL HB.out⟩
 rw [if_neg c2] at H
 have c2b0 : decide (10 < (l0.length : Int)) = false := decide_eq_false c2
 have c2b1 : decide (10 < l0.length) = false := decide_eq_false (by omega)
 clear c2
 have H' := Aside0.mk H
 clear H
 go_enter Try.func10, Try.ntmps10
 go_wp2
 go_loopg [3] k (fun kq v3 w' => ∃ (x3_1 : Int), v3 = .int .i64 x3_1 ∧ Aside0 (shelfmarklaw09_light.l0 kq l0 x3_1 = some r) ∧ Aside0 (kq ≤ k) ∧ Aside0 (Below w.heap.size w w'))
 case atStart => exact ⟨(0), (by first | rfl | (simp; done) | (simp [*]; done) | (simp [ne_nil_bytes]; done) | (simp [eq_nil_bytes]; done)), H', ⟨Nat.le_refl _⟩, ⟨hL HB.out⟩⟩
 clear H'
 try clear c1
 try clear c2
 try clear c2b0
 try clear c2b0z
 try clear c2b1
 try clear c2b1z
 try clear p2
 obtain ⟨x3_1, rfl, HA, HK1, HB⟩ := hrel
 rcases gk with _ | k1
 ·exact absurd HA.out (by simp [shelfmarklaw09_light.l0])
 have H := HA.out
 clear HA
 simp only [shelfmarklaw09_light.l0] at H
 by_cases c3 : x3_1 < (l0.length : Int)
 rotate_left
 ·rw [if_neg c3] at H
  have c3b0 : decide (x3_1 < (l0.length : Int)) = false := decide_eq_false c3
  clear c3
  obtain rfl := Option.some.inj H
  simp only [Option.some.injEq, Prod.mk.injEq] at H
  obtain ⟨rfl⟩ := H
  go_wp2
  go_ret
  exact ⟨by first | rfl | (simp [errW_none, errW_some] <;> rfl) | (simp [*, errW_none, errW_some] <;> rfl), hL HB.out⟩
 rw [if_pos c3] at H
 have c3b0 : decide (x3_1 < (l0.length : Int)) = true := decide_eq_true c3
 clear c3
 by_cases c4 : 0 ≤ x3_1
 rotate_left
 ·rw [if_neg c4] at H
  exact absurd H (by simp)
 rw [if_pos c4] at H
 have c4b0 : decide (0 ≤ x3_1) = true := decide_eq_true c4
 clear c4
 replace H := Option.bind_eq_some_iff.mp H
 obtain ⟨t124, A50, H⟩ := H
 replace H : (if t124 = true then (shelfmarklaw09_light.l0 k1 l0 (wrap64 (x3_1 + 1))) else (some false)) = some r := H
 have A5 := Aside0.mk A50
 clear A50
 by_cases c6 : t124 = true
 rotate_left
 ·replace c6 := Bool.eq_false_iff.mpr c6
  subst c6
  have H1 : (some false) = some r := by rw [if_neg (show ¬ (false = true) by decide)] at H; exact H
  clear H
  have H := H1
  clear H1
  obtain rfl := Option.some.inj H
  simp only [Option.some.injEq, Prod.mk.injEq] at H
  obtain ⟨rfl⟩ := H
  have p123 : 0 ≤ (x3_1 : Int) := of_decide_eq_true (by first | (with_reducible assumption) | assumption)
  have q123 : x3_1 < (l0.length : Int) := of_decide_eq_true (by first | (with_reducible assumption) | assumption)
  obtain ⟨ad123, A123_0, c123_0, e123, hx123_0, hl123_0, hi123_0⟩ := at_L3 HR0.out x3_1 p123 q123
  cases e123
  replace hx123_0 := (HB.out.cell (World.block_lt_of_cell? w _ hx123_0)).trans hx123_0
  have HR123_0 := Aside0.mk hi123_0
  have HC123_0 := Aside0.mk hl123_0
  clear hi123_0 hl123_0
  replace p123 := eq_true p123
  replace q123 := eq_true q123
  go_wp2_with (first | ((with_reducible refine gate_callee (f := 15) rfl ?_); refine goesL_ (some 17) rfl rfl Try.func15 (by kernel_rfl) rfl #[.slice A123_0 (rd_L3 l0 x3_1).length c123_0, .int .i64 60] rfl (by (try simp only [List.map_toArray, List.map_cons, List.map_nil]); first | done | rfl | (simp only [List.length_drop, List.length_take]; rfl)) ?_; (with_reducible refine (shelfmarkref09_Light.calls k1 _ _ (rd_L3 l0 x3_1) 60 false _ ?side1 ?side2 A5.out).mono ?_); (case side1 => repeat (first | exact (Kd.C_below HR123_0.out HB.out) | (with_reducible refine Kd.C_alloc ?_ _) | (with_reducible refine Kd.C_drewN ?_ _) | (with_reducible refine Kd.C_drew ?_))); (case side2 => exact HC123_0.out); rintro e w8 ⟨rfl, hb⟩; refine ⟨_, rfl, ?_⟩; have n0_ := Aside0.mk (below_step (hL HB.out) hb); clear HB; have HB := n0_; clear n0_; (try clear hb); (try clear hb2); (try clear hk); (try clear hi)))
  go_ret
  exact ⟨by first | rfl | (simp [errW_none, errW_some] <;> rfl) | (simp [*, errW_none, errW_some] <;> rfl), hL HB.out⟩
 subst c6
 have H1 : (shelfmarklaw09_light.l0 k1 l0 (wrap64 (x3_1 + 1))) = some r := by rw [if_pos rfl] at H; exact H
 clear H
 have H := H1
 clear H1
 have H' := Aside0.mk H
 clear H
 have p123 : 0 ≤ (x3_1 : Int) := of_decide_eq_true (by first | (with_reducible assumption) | assumption)
 have q123 : x3_1 < (l0.length : Int) := of_decide_eq_true (by first | (with_reducible assumption) | assumption)
 obtain ⟨ad123, A123_0, c123_0, e123, hx123_0, hl123_0, hi123_0⟩ := at_L3 HR0.out x3_1 p123 q123
 cases e123
 replace hx123_0 := (HB.out.cell (World.block_lt_of_cell? w _ hx123_0)).trans hx123_0
 have HR123_0 := Aside0.mk hi123_0
 have HC123_0 := Aside0.mk hl123_0
 clear hi123_0 hl123_0
 replace p123 := eq_true p123
 replace q123 := eq_true q123
 go_wp2_with (first | ((with_reducible refine gate_callee (f := 15) rfl ?_); refine goesL_ (some 17) rfl rfl Try.func15 (by kernel_rfl) rfl #[.slice A123_0 (rd_L3 l0 x3_1).length c123_0, .int .i64 60] rfl (by (try simp only [List.map_toArray, List.map_cons, List.map_nil]); first | done | rfl | (simp only [List.length_drop, List.length_take]; rfl)) ?_; (with_reducible refine (shelfmarkref09_Light.calls k1 _ _ (rd_L3 l0 x3_1) 60 true _ ?side1 ?side2 A5.out).mono ?_); (case side1 => repeat (first | exact (Kd.C_below HR123_0.out HB.out) | (with_reducible refine Kd.C_alloc ?_ _) | (with_reducible refine Kd.C_drewN ?_ _) | (with_reducible refine Kd.C_drew ?_))); (case side2 => exact HC123_0.out); rintro e w7 ⟨rfl, hb⟩; refine ⟨_, rfl, ?_⟩; have n0_ := Aside0.mk (below_step (hL HB.out) hb); clear HB; have HB := n0_; clear n0_; (try clear hb); (try clear hb2); (try clear hk); (try clear hi)))
 go_roundg k1
 case measure => have := HK1.out; omega
 case rel => exact ⟨(wrap64 (x3_1 + 1)), (by first | rfl | (simp; done) | (simp [*]; done) | (simp [ne_nil_bytes]; done) | (simp [eq_nil_bytes]; done)), H', ⟨by have := HK1.out; omega⟩, ⟨hL HB.out⟩⟩

end Go.Proofs.Ytkkfkccfnfjbiaa.PGr
