-- Written by a program of this session for this claim (mp.py, over the kit's print); Lean checks it.
import Derived.Test.YtkkfkccfnfjbiaaPAllx0
import Derived.Test.YtkkfkccfnfjbiaaPAllx12
import Derived.Test.YtkkfkccfnfjbiaaPAllx16
namespace Go.Proofs.Ytkkfkccfnfjbiaa.PAll
open Go.RowKit Go.Proofs.YtkkfkccfnfjbiaaW.PrintWords Go.Proofs.YtkkfkccfnfjbiaaW.PrintLast Go.Proofs.YtkkfkccfnfjbiaaW.PrintMore Go.Proofs.Ytkkfkccfnfjbiaa.Fv Go.Proofs.Ytkkfkccfnfjbiaa.Hl
attribute [local go_sem] max2_int min2_int max_two min_two max_three min_three max_four min_four str_gtr str_leq str_geq cell_set2   -- for this text's walks alone
set_option linter.unusedVariables false
set_option linter.unusedSimpArgs false

/-! ### shelfmarkref09_Make: function 11 -/
def shelfmarkref09_Make.l0 : Nat → List (S37) → List (S37) → Int → Option ((List (S37)))
 | 0, _, _, _ => none
 | k + 1, x0, x3, x4 => if x4 < (x0.length : Int) then (if 0 ≤ x4 then ((shelfmarkref09_put.f k x3 ((rd_T37 x0 x4).f0) ((rd_T37 x0 x4).f1) ((rd_T37 x0 x4).f2)).bind fun t300 => (shelfmarkref09_Make.l0 k x0 t300 (wrap64 (x4 + 1)))) else (none)) else (some x3)
def shelfmarkref09_Make.f (k : Nat) (l0 : List (S37)) : Option ((List (S37))) := shelfmarkref09_Make.l0 k l0 ([] : List (S37)) 0
theorem shelfmarkref09_Make.mono_l : ∀ k, (∀ y0 y1 y2, LeO (shelfmarkref09_Make.l0 k y0 y1 y2) (shelfmarkref09_Make.l0 (k + 1) y0 y1 y2))
 | 0 => fun _ _ _ r h => by simp [shelfmarkref09_Make.l0] at h
 | k + 1 => by
  have ih0 := shelfmarkref09_Make.mono_l k
  ·intro y0 y1 y2
   unfold shelfmarkref09_Make.l0
   repeat' first
   | (with_reducible exact ih0 _ _ _)
   | (with_reducible exact shelfmarkref09_put.mono _ _ _ _ _)
   | (with_reducible exact LeO.refl _)
   | (with_reducible exact LeO.none _)
   | (with_reducible refine LeO.ite ?_ ?_)
   | (with_reducible refine LeO.bind ?_ (fun _ => ?_))
   | exact ih0 _ _ _
   | exact shelfmarkref09_put.mono _ _ _ _ _
   | exact LeO.none _
   | refine LeO.ite ?_ ?_
   | refine LeO.bind ?_ (fun _ => ?_)
theorem shelfmarkref09_Make.mono : ∀ a0 k, LeO (shelfmarkref09_Make.f k a0) (shelfmarkref09_Make.f (k + 1) a0) := by
 intro a0 k
 have ih0 := shelfmarkref09_Make.mono_l k
 unfold shelfmarkref09_Make.f
 repeat' first
   | (with_reducible exact ih0 _ _ _)
   | (with_reducible exact shelfmarkref09_put.mono _ _ _ _ _)
   | (with_reducible exact LeO.refl _)
   | (with_reducible exact LeO.none _)
   | (with_reducible refine LeO.ite ?_ ?_)
   | (with_reducible refine LeO.bind ?_ (fun _ => ?_))
   | exact ih0 _ _ _
   | exact shelfmarkref09_put.mono _ _ _ _ _
   | exact LeO.none _
   | refine LeO.ite ?_ ?_
   | refine LeO.bind ?_ (fun _ => ?_)
set_option maxHeartbeats 8000000 in
set_option maxRecDepth 100000 in
theorem shelfmarkref09_Make.calls (k : Nat) (A0 : Option Addr) (c0 : Nat) (l0 : List (S37)) (r : List (S37)) (w : World) (hr0 : Kd.C k37 w A0 l0.length l0) (hc0 : l0.length ≤ c0) (h : shelfmarkref09_Make.f k l0 = some r) :
  Calls Try.prog 11 #[.slice A0 l0.length c0] w fun e w' => ∃ v0_ : Value, e = .returned (v0_) ∧ Kd.R k37 37 w' w.heap.size (fun _ => True) v0_ r ∧ Below w.heap.size w w' := by
 have hu37 := Try.underlying37
 have HR0 := Aside0.mk hr0
 have HC0 := Aside0.mk hc0
 clear hr0 hc0
 have HB := Aside0.mk (Below.refl w.heap.size w)
 have H : (shelfmarkref09_Make.l0 k l0 ([] : List (S37)) 0) = some r := h
 clear h
 have H' := Aside0.mk H
 clear H
 go_enter Try.func11, Try.ntmps11
 go_wp2
 go_loopg [3, 4] k (fun kq v3 v4 w' => ∃ (x3_1 : List (S37)) (x4_1 : Int), v4 = .int .i64 x4_1 ∧ Aside0 (shelfmarkref09_Make.l0 kq l0 x3_1 x4_1 = some r) ∧ Aside0 (kq ≤ k) ∧ Aside0 (Kd.R k37 37 w' w.heap.size (fun _ => True) v3 x3_1) ∧ Aside0 (Below w.heap.size w w'))
 case atStart => exact ⟨(([] : List (S37))), (0), (by first | rfl | (simp; done) | (simp [*]; done) | (simp [ne_nil_bytes]; done) | (simp [eq_nil_bytes]; done)), H', ⟨Nat.le_refl _⟩, ⟨by first | exact Kd.R_nil _ _ _ _ _ | exact Kd.N_nil _ _ _ _ _ | exact Kd.V_nil _ _ _ _ _ | exact Kd.Q_nil _ _ _ _ _ | exact Kd.S_nil _ _ _ _ _⟩, ⟨hL HB.out⟩⟩
 clear H'
 try clear c1
 obtain ⟨x3_1, x4_1, rfl, HA, HK1, HO_3, HB⟩ := hrel
 rcases gk with _ | k1
 ·exact absurd HA.out (by simp [shelfmarkref09_Make.l0])
 have H := HA.out
 clear HA
 simp only [shelfmarkref09_Make.l0] at H
 by_cases c2 : x4_1 < (l0.length : Int)
 rotate_left
 ·rw [if_neg c2] at H
  have c2b0 : decide (x4_1 < (l0.length : Int)) = false := decide_eq_false c2
  clear c2
  obtain rfl := Option.some.inj H
  simp only [Option.some.injEq, Prod.mk.injEq] at H
  obtain ⟨rfl⟩ := H
  go_wp2
  go_ret
  exact ⟨_, by first | rfl | (simp [errW_none, errW_some] <;> rfl) | (simp [*, errW_none, errW_some] <;> rfl), by exact rL HO_3.out, hL HB.out⟩
 rw [if_pos c2] at H
 have c2b0 : decide (x4_1 < (l0.length : Int)) = true := decide_eq_true c2
 clear c2
 by_cases c3 : 0 ≤ x4_1
 rotate_left
 ·rw [if_neg c3] at H
  exact absurd H (by simp)
 rw [if_pos c3] at H
 have c3b0 : decide (0 ≤ x4_1) = true := decide_eq_true c3
 clear c3
 replace H := Option.bind_eq_some_iff.mp H
 obtain ⟨t300, A40, H⟩ := H
 replace H : (shelfmarkref09_Make.l0 k1 l0 t300 (wrap64 (x4_1 + 1))) = some r := H
 have A4 := Aside0.mk A40
 clear A40
 have H' := Aside0.mk H
 clear H
 have p299 : 0 ≤ (x4_1 : Int) := of_decide_eq_true (by first | (with_reducible assumption) | assumption)
 have q299 : x4_1 < (l0.length : Int) := of_decide_eq_true (by first | (with_reducible assumption) | assumption)
 obtain ⟨ad299, e299, hx299_0, hx299_1, hx299_2⟩ := at_T37 HR0.out x4_1 p299 q299
 cases e299
 replace hx299_0 := (HB.out.cell (World.block_lt_of_cell? w _ hx299_0)).trans hx299_0
 replace hx299_1 := (HB.out.cell (World.block_lt_of_cell? w _ hx299_1)).trans hx299_1
 replace hx299_2 := (HB.out.cell (World.block_lt_of_cell? w _ hx299_2)).trans hx299_2
 replace p299 := eq_true p299
 replace q299 := eq_true q299
 obtain ⟨Ao5, co5, eo5⟩ := Kd.R_slice HO_3.out
 subst eo5
 go_wp2_with (first | ((with_reducible refine gate_callee (f := 30) rfl ?_); refine goesL_ (some 16) rfl rfl Try.func30 (by kernel_rfl) rfl #[.slice Ao5 x3_1.length co5, .agg #[.string ((rd_T37 l0 x4_1).f0), .string ((rd_T37 l0 x4_1).f1), .bool ((rd_T37 l0 x4_1).f2)]] rfl (by (try simp only [List.map_toArray, List.map_cons, List.map_nil]); first | done | rfl | (simp only [List.length_drop, List.length_take]; rfl)) ?_; (with_reducible refine (shelfmarkref09_put.calls k1 _ _ x3_1 ((rd_T37 l0 x4_1).f0) ((rd_T37 l0 x4_1).f1) ((rd_T37 l0 x4_1).f2) t300 _ ?side1 ?side2 A4.out).mono ?_); (case side1 => repeat (first | exact (Kd.R_reads' HO_3.out).2.2 | (with_reducible refine Kd.C_alloc ?_ _) | (with_reducible refine Kd.C_drewN ?_ _) | (with_reducible refine Kd.C_drew ?_))); (case side2 => exact (Kd.R_reads' HO_3.out).2.1); rintro e w6 ⟨v301, rfl, ho0, hb⟩; refine ⟨_, rfl, ?_⟩; have n0_ := Aside0.mk (Kd.R_elder' (rL HO_3.out) (Kd.R_base ho0) hb); have n1_ := Aside0.mk (Kd.R_lower (Kd.R_new' ho0 (Kd.R_lt (rL HO_3.out))) (below_size (hL HB.out))); have n2_ := Aside0.mk (below_step (hL HB.out) hb); clear HO_3; clear HB; have HO_3 := n0_; have HO302 := n1_; have HB := n2_; clear n0_ n1_ n2_; (try clear hb); (try clear hb2); (try clear hk); (try clear hi); (try clear ho0)))
 go_roundg k1
 case measure => have := HK1.out; omega
 case rel => exact ⟨(t300), (wrap64 (x4_1 + 1)), (by first | rfl | (simp; done) | (simp [*]; done) | (simp [ne_nil_bytes]; done) | (simp [eq_nil_bytes]; done)), H', ⟨by have := HK1.out; omega⟩, ⟨by (with_reducible repeat (first | apply Kd.R_alloc | apply Kd.R_drewN | apply Kd.R_drew)); exact Kd.R_mono HO302.out (fun _ hk => trivial)⟩, ⟨hL HB.out⟩⟩

/-! ### shelfmarkref09_Merge: function 13 -/
mutual
def shelfmarkref09_Merge.l0 : Nat → List (List (S37)) → Int → Option ((List (S37)) × Int)
 | 0, _, _ => none
 | k + 1, x0, x5 => if x5 < (x0.length : Int) then (if 0 ≤ x5 then ((shelfmarkref09_Right.f k (rd_L4 x0 x5)).bind fun t304 => (if t304 = true then (shelfmarkref09_Merge.l0 k x0 (wrap64 (x5 + 1))) else (some (([] : List (S37)), 3)))) else (none)) else (shelfmarkref09_Merge.l1 k x0 ([] : List (S37)) (wrap64 ((x0.length : Int) - 1)))
def shelfmarkref09_Merge.l1 : Nat → List (List (S37)) → List (S37) → Int → Option ((List (S37)) × Int)
 | 0, _, _, _ => none
 | k + 1, x0, x4, x6 => if x6 ≥ 0 then (shelfmarkref09_Merge.l2 k x0 x4 x6 0) else (some (x4, 0))
def shelfmarkref09_Merge.l2 : Nat → List (List (S37)) → List (S37) → Int → Int → Option ((List (S37)) × Int)
 | 0, _, _, _, _ => none
 | k + 1, x0, x4, x6, x7 => if 0 ≤ x6 then (if x6 < (x0.length : Int) then (if x7 < ((rd_L4 x0 x6).length : Int) then (if 0 ≤ x7 then ((shelfmarkref09_put.f k x4 ((rd_T37 (rd_L4 x0 x6) x7).f0) ((rd_T37 (rd_L4 x0 x6) x7).f1) ((rd_T37 (rd_L4 x0 x6) x7).f2)).bind fun t308 => (shelfmarkref09_Merge.l2 k x0 t308 x6 (wrap64 (x7 + 1)))) else (none)) else (shelfmarkref09_Merge.l1 k x0 x4 (wrap64 (x6 - 1)))) else (none)) else (none)
end
def shelfmarkref09_Merge.f (k : Nat) (l0 : List (List (S37))) : Option ((List (S37)) × Int) := shelfmarkref09_Merge.l0 k l0 0
theorem shelfmarkref09_Merge.mono_l : ∀ k, (∀ y0 y1, LeO (shelfmarkref09_Merge.l0 k y0 y1) (shelfmarkref09_Merge.l0 (k + 1) y0 y1)) ∧ (∀ y0 y1 y2, LeO (shelfmarkref09_Merge.l1 k y0 y1 y2) (shelfmarkref09_Merge.l1 (k + 1) y0 y1 y2)) ∧ (∀ y0 y1 y2 y3, LeO (shelfmarkref09_Merge.l2 k y0 y1 y2 y3) (shelfmarkref09_Merge.l2 (k + 1) y0 y1 y2 y3))
 | 0 => ⟨fun _ _ r h => by simp [shelfmarkref09_Merge.l0] at h, fun _ _ _ r h => by simp [shelfmarkref09_Merge.l1] at h, fun _ _ _ _ r h => by simp [shelfmarkref09_Merge.l2] at h⟩
 | k + 1 => by
  obtain ⟨ih0, ih1, ih2⟩ := shelfmarkref09_Merge.mono_l k
  refine ⟨?_, ?_, ?_⟩
  ·intro y0 y1
   unfold shelfmarkref09_Merge.l0
   repeat' first
   | (with_reducible exact ih0 _ _)
   | (with_reducible exact ih1 _ _ _)
   | (with_reducible exact ih2 _ _ _ _)
   | (with_reducible exact shelfmarkref09_Right.mono _ _)
   | (with_reducible exact shelfmarkref09_put.mono _ _ _ _ _)
   | (with_reducible exact LeO.refl _)
   | (with_reducible exact LeO.none _)
   | (with_reducible refine LeO.ite ?_ ?_)
   | (with_reducible refine LeO.bind ?_ (fun _ => ?_))
   | exact ih0 _ _
   | exact ih1 _ _ _
   | exact ih2 _ _ _ _
   | exact shelfmarkref09_Right.mono _ _
   | exact shelfmarkref09_put.mono _ _ _ _ _
   | exact LeO.none _
   | refine LeO.ite ?_ ?_
   | refine LeO.bind ?_ (fun _ => ?_)
  ·intro y0 y1 y2
   unfold shelfmarkref09_Merge.l1
   repeat' first
   | (with_reducible exact ih0 _ _)
   | (with_reducible exact ih1 _ _ _)
   | (with_reducible exact ih2 _ _ _ _)
   | (with_reducible exact shelfmarkref09_Right.mono _ _)
   | (with_reducible exact shelfmarkref09_put.mono _ _ _ _ _)
   | (with_reducible exact LeO.refl _)
   | (with_reducible exact LeO.none _)
   | (with_reducible refine LeO.ite ?_ ?_)
   | (with_reducible refine LeO.bind ?_ (fun _ => ?_))
   | exact ih0 _ _
   | exact ih1 _ _ _
   | exact ih2 _ _ _ _
   | exact shelfmarkref09_Right.mono _ _
   | exact shelfmarkref09_put.mono _ _ _ _ _
   | exact LeO.none _
   | refine LeO.ite ?_ ?_
   | refine LeO.bind ?_ (fun _ => ?_)
  ·intro y0 y1 y2 y3
   unfold shelfmarkref09_Merge.l2
   repeat' first
   | (with_reducible exact ih0 _ _)
   | (with_reducible exact ih1 _ _ _)
   | (with_reducible exact ih2 _ _ _ _)
   | (with_reducible exact shelfmarkref09_Right.mono _ _)
   | (with_reducible exact shelfmarkref09_put.mono _ _ _ _ _)
   | (with_reducible exact LeO.refl _)
   | (with_reducible exact LeO.none _)
   | (with_reducible refine LeO.ite ?_ ?_)
   | (with_reducible refine LeO.bind ?_ (fun _ => ?_))
   | exact ih0 _ _
   | exact ih1 _ _ _
   | exact ih2 _ _ _ _
   | exact shelfmarkref09_Right.mono _ _
   | exact shelfmarkref09_put.mono _ _ _ _ _
   | exact LeO.none _
   | refine LeO.ite ?_ ?_
   | refine LeO.bind ?_ (fun _ => ?_)
theorem shelfmarkref09_Merge.mono : ∀ a0 k, LeO (shelfmarkref09_Merge.f k a0) (shelfmarkref09_Merge.f (k + 1) a0) := by
 intro a0 k
 obtain ⟨ih0, ih1, ih2⟩ := shelfmarkref09_Merge.mono_l k
 unfold shelfmarkref09_Merge.f
 repeat' first
   | (with_reducible exact ih0 _ _)
   | (with_reducible exact ih1 _ _ _)
   | (with_reducible exact ih2 _ _ _ _)
   | (with_reducible exact shelfmarkref09_Right.mono _ _)
   | (with_reducible exact shelfmarkref09_put.mono _ _ _ _ _)
   | (with_reducible exact LeO.refl _)
   | (with_reducible exact LeO.none _)
   | (with_reducible refine LeO.ite ?_ ?_)
   | (with_reducible refine LeO.bind ?_ (fun _ => ?_))
   | exact ih0 _ _
   | exact ih1 _ _ _
   | exact ih2 _ _ _ _
   | exact shelfmarkref09_Right.mono _ _
   | exact shelfmarkref09_put.mono _ _ _ _ _
   | exact LeO.none _
   | refine LeO.ite ?_ ?_
   | refine LeO.bind ?_ (fun _ => ?_)
set_option maxHeartbeats 8000000 in
set_option maxRecDepth 100000 in
theorem shelfmarkref09_Merge.calls (k : Nat) (A0 : Option Addr) (c0 : Nat) (l0 : List (List (S37))) (r1 : List (S37)) (r2 : Int) (w : World) (hr0 : Kd.C (Kd.slice 37 k37) w A0 l0.length l0) (hc0 : l0.length ≤ c0) (h : shelfmarkref09_Merge.f k l0 = some (r1, r2)) :
  Calls Try.prog 13 #[.slice A0 l0.length c0] w fun e w' => ∃ v0_ : Value, e = .returned (.tuple #[v0_, .int .i64 r2]) ∧ Kd.R k37 37 w' w.heap.size (fun _ => True) v0_ r1 ∧ Below w.heap.size w w' := by
 have hu37 := Try.underlying37
 have HR0 := Aside0.mk hr0
 have HC0 := Aside0.mk hc0
 clear hr0 hc0
 have HB := Aside0.mk (Below.refl w.heap.size w)
 have H : (shelfmarkref09_Merge.l0 k l0 0) = some (r1, r2) := h
 clear h
 have H' := Aside0.mk H
 clear H
 go_enter Try.func13, Try.ntmps13
 go_wp2
 go_loopg [5] k (fun kq v5 w' => ∃ (x5_1 : Int), v5 = .int .i64 x5_1 ∧ Aside0 (shelfmarkref09_Merge.l0 kq l0 x5_1 = some (r1, r2)) ∧ Aside0 (kq ≤ k) ∧ Aside0 (Below w.heap.size w w'))
 case atStart => exact ⟨(0), (by first | rfl | (simp; done) | (simp [*]; done) | (simp [ne_nil_bytes]; done) | (simp [eq_nil_bytes]; done)), H', ⟨Nat.le_refl _⟩, ⟨hL HB.out⟩⟩
 clear H'
 try clear c1
 obtain ⟨x5_1, rfl, HA, HK1, HB⟩ := hrel
 rcases gk with _ | k1
 ·exact absurd HA.out (by simp [shelfmarkref09_Merge.l0])
 have H := HA.out
 clear HA
 simp only [shelfmarkref09_Merge.l0] at H
 by_cases c2 : x5_1 < (l0.length : Int)
 ·rw [if_pos c2] at H
  have c2b0 : decide (x5_1 < (l0.length : Int)) = true := decide_eq_true c2
  clear c2
  by_cases c3 : 0 ≤ x5_1
  rotate_left
  ·rw [if_neg c3] at H
   exact absurd H (by simp)
  rw [if_pos c3] at H
  have c3b0 : decide (0 ≤ x5_1) = true := decide_eq_true c3
  clear c3
  replace H := Option.bind_eq_some_iff.mp H
  obtain ⟨t304, A40, H⟩ := H
  replace H : (if t304 = true then (shelfmarkref09_Merge.l0 k1 l0 (wrap64 (x5_1 + 1))) else (some (([] : List (S37)), 3))) = some (r1, r2) := H
  have A4 := Aside0.mk A40
  clear A40
  by_cases c5 : t304 = true
  ·subst c5
   have H1 : (shelfmarkref09_Merge.l0 k1 l0 (wrap64 (x5_1 + 1))) = some (r1, r2) := by rw [if_pos rfl] at H; exact H
   clear H
   have H := H1
   clear H1
   have H' := Aside0.mk H
   clear H
   have p303 : 0 ≤ (x5_1 : Int) := of_decide_eq_true (by first | (with_reducible assumption) | assumption)
   have q303 : x5_1 < (l0.length : Int) := of_decide_eq_true (by first | (with_reducible assumption) | assumption)
   obtain ⟨ad303, A303_0, c303_0, e303, hx303_0, hl303_0, hi303_0⟩ := at_L4 HR0.out x5_1 p303 q303
   cases e303
   replace hx303_0 := (HB.out.cell (World.block_lt_of_cell? w _ hx303_0)).trans hx303_0
   have HR303_0 := Aside0.mk hi303_0
   have HC303_0 := Aside0.mk hl303_0
   clear hi303_0 hl303_0
   replace p303 := eq_true p303
   replace q303 := eq_true q303
   go_wp2_with (first | ((with_reducible refine gate_callee (f := 29) rfl ?_); refine goesL_ (some 18) rfl rfl Try.func29 (by kernel_rfl) rfl #[.slice A303_0 (rd_L4 l0 x5_1).length c303_0] rfl (by (try simp only [List.map_toArray, List.map_cons, List.map_nil]); first | done | rfl | (simp only [List.length_drop, List.length_take]; rfl)) ?_; (with_reducible refine (shelfmarkref09_Right.calls k1 _ _ (rd_L4 l0 x5_1) true _ ?side1 ?side2 A4.out).mono ?_); (case side1 => repeat (first | exact (Kd.C_below HR303_0.out HB.out) | (with_reducible refine Kd.C_alloc ?_ _) | (with_reducible refine Kd.C_drewN ?_ _) | (with_reducible refine Kd.C_drew ?_))); (case side2 => exact HC303_0.out); rintro e w' ⟨rfl, ⟨nd, rfl⟩⟩; refine ⟨_, rfl, ?_⟩))
   go_roundg k1
   case measure => have := HK1.out; omega
   case rel => exact ⟨(wrap64 (x5_1 + 1)), (by first | rfl | (simp; done) | (simp [*]; done) | (simp [ne_nil_bytes]; done) | (simp [eq_nil_bytes]; done)), H', ⟨by have := HK1.out; omega⟩, ⟨hL HB.out⟩⟩
  replace c5 := Bool.eq_false_iff.mpr c5
  subst c5
  have H1 : (some (([] : List (S37)), 3)) = some (r1, r2) := by rw [if_neg (show ¬ (false = true) by decide)] at H; exact H
  clear H
  have H := H1
  clear H1
  simp only [Option.some.injEq, Prod.mk.injEq] at H
  obtain ⟨rfl, rfl⟩ := H
  have p303 : 0 ≤ (x5_1 : Int) := of_decide_eq_true (by first | (with_reducible assumption) | assumption)
  have q303 : x5_1 < (l0.length : Int) := of_decide_eq_true (by first | (with_reducible assumption) | assumption)
  obtain ⟨ad303, A303_0, c303_0, e303, hx303_0, hl303_0, hi303_0⟩ := at_L4 HR0.out x5_1 p303 q303
  cases e303
  replace hx303_0 := (HB.out.cell (World.block_lt_of_cell? w _ hx303_0)).trans hx303_0
  have HR303_0 := Aside0.mk hi303_0
  have HC303_0 := Aside0.mk hl303_0
  clear hi303_0 hl303_0
  replace p303 := eq_true p303
  replace q303 := eq_true q303
  go_wp2_with (first | ((with_reducible refine gate_callee (f := 29) rfl ?_); refine goesL_ (some 18) rfl rfl Try.func29 (by kernel_rfl) rfl #[.slice A303_0 (rd_L4 l0 x5_1).length c303_0] rfl (by (try simp only [List.map_toArray, List.map_cons, List.map_nil]); first | done | rfl | (simp only [List.length_drop, List.length_take]; rfl)) ?_; (with_reducible refine (shelfmarkref09_Right.calls k1 _ _ (rd_L4 l0 x5_1) false _ ?side1 ?side2 A4.out).mono ?_); (case side1 => repeat (first | exact (Kd.C_below HR303_0.out HB.out) | (with_reducible refine Kd.C_alloc ?_ _) | (with_reducible refine Kd.C_drewN ?_ _) | (with_reducible refine Kd.C_drew ?_))); (case side2 => exact HC303_0.out); rintro e w' ⟨rfl, ⟨nd, rfl⟩⟩; refine ⟨_, rfl, ?_⟩))
  go_ret2
  exact ⟨_, by first | rfl | (simp [errW_none, errW_some] <;> rfl) | (simp [*, errW_none, errW_some] <;> rfl), by first | exact Kd.R_nil _ _ _ _ _ | exact Kd.N_nil _ _ _ _ _ | exact Kd.V_nil _ _ _ _ _ | exact Kd.Q_nil _ _ _ _ _ | exact Kd.S_nil _ _ _ _ _, hL HB.out⟩
 rw [if_neg c2] at H
 have c2b0 : decide (x5_1 < (l0.length : Int)) = false := decide_eq_false c2
 clear c2
 have H' := Aside0.mk H
 clear H
 go_wp2
 go_loopg [4, 6] k1 (fun kq v4 v6 w' => ∃ (x4_2 : List (S37)) (x6_2 : Int), v6 = .int .i64 x6_2 ∧ Aside0 (shelfmarkref09_Merge.l1 kq l0 x4_2 x6_2 = some (r1, r2)) ∧ Aside0 (kq ≤ k1) ∧ Aside0 (Kd.R k37 37 w' w.heap.size (fun _ => True) v4 x4_2) ∧ Aside0 (Below w.heap.size w w'))
 case atStart => exact ⟨(([] : List (S37))), (wrap64 ((l0.length : Int) - 1)), (by first | rfl | (simp; done) | (simp [*]; done) | (simp [ne_nil_bytes]; done) | (simp [eq_nil_bytes]; done)), H', ⟨Nat.le_refl _⟩, ⟨by first | exact Kd.R_nil _ _ _ _ _ | exact Kd.N_nil _ _ _ _ _ | exact Kd.V_nil _ _ _ _ _ | exact Kd.Q_nil _ _ _ _ _ | exact Kd.S_nil _ _ _ _ _⟩, ⟨hL HB.out⟩⟩
 clear H'
 try clear c1
 try clear c2
 try clear c2b0
 try clear c2b0z
 try clear p2
 try clear c3
 try clear c3b0
 try clear c3b0z
 try clear p3
 try clear q3
 try clear hx3
 try clear c5
 try clear hx303_0
 try clear p303
 try clear q303
 obtain ⟨x4_2, x6_2, rfl, HA, HK2, HO_4, HB⟩ := hrel
 rcases gk with _ | k2
 ·exact absurd HA.out (by simp [shelfmarkref09_Merge.l1])
 have H := HA.out
 clear HA
 simp only [shelfmarkref09_Merge.l1] at H
 by_cases c6 : x6_2 ≥ 0
 rotate_left
 ·rw [if_neg c6] at H
  have c6b0 : decide (0 ≤ x6_2) = false := decide_eq_false c6
  clear c6
  simp only [Option.some.injEq, Prod.mk.injEq] at H
  obtain ⟨rfl, rfl⟩ := H
  go_wp2
  go_ret2
  exact ⟨_, by first | rfl | (simp [errW_none, errW_some] <;> rfl) | (simp [*, errW_none, errW_some] <;> rfl), by exact rL HO_4.out, hL HB.out⟩
 rw [if_pos c6] at H
 have c6b0 : decide (0 ≤ x6_2) = true := decide_eq_true c6
 clear c6
 have H' := Aside0.mk H
 clear H
 go_wp2
 go_loopg [4, 7] k2 (fun kq v4 v7 w' => ∃ (x4_3 : List (S37)) (x7_3 : Int), v7 = .int .i64 x7_3 ∧ Aside0 (shelfmarkref09_Merge.l2 kq l0 x4_3 x6_2 x7_3 = some (r1, r2)) ∧ Aside0 (kq ≤ k2) ∧ Aside0 (Kd.R k37 37 w' w.heap.size (fun _ => True) v4 x4_3) ∧ Aside0 (Below w.heap.size w w'))
 case atStart => exact ⟨(x4_2), (0), (by first | rfl | (simp; done) | (simp [*]; done) | (simp [ne_nil_bytes]; done) | (simp [eq_nil_bytes]; done)), H', ⟨Nat.le_refl _⟩, ⟨by exact rL HO_4.out⟩, ⟨hL HB.out⟩⟩
 clear H'
 try clear c1
 try clear c2
 try clear c2b0
 try clear c2b0z
 try clear p2
 try clear c3
 try clear c3b0
 try clear c3b0z
 try clear p3
 try clear q3
 try clear hx3
 try clear c5
 try clear c6
 try clear c6b0
 try clear c6b0z
 try clear p6
 try clear hx303_0
 try clear p2
 try clear p3
 try clear p303
 try clear q3
 try clear q303
 obtain ⟨x4_3, x7_3, rfl, HA, HK3, HO_4, HB⟩ := hrel
 rcases gk with _ | k3
 ·exact absurd HA.out (by simp [shelfmarkref09_Merge.l2])
 have H := HA.out
 clear HA
 simp only [shelfmarkref09_Merge.l2] at H
 by_cases c7 : 0 ≤ x6_2
 rotate_left
 ·rw [if_neg c7] at H
  exact absurd H (by simp)
 rw [if_pos c7] at H
 have c7b0 : decide (0 ≤ x6_2) = true := decide_eq_true c7
 clear c7
 by_cases c8 : x6_2 < (l0.length : Int)
 rotate_left
 ·rw [if_neg c8] at H
  exact absurd H (by simp)
 rw [if_pos c8] at H
 have c8b0 : decide (x6_2 < (l0.length : Int)) = true := decide_eq_true c8
 clear c8
 by_cases c9 : x7_3 < ((rd_L4 l0 x6_2).length : Int)
 rotate_left
 ·rw [if_neg c9] at H
  have c9b0 : decide (x7_3 < ((rd_L4 l0 x6_2).length : Int)) = false := decide_eq_false c9
  clear c9
  have H' := Aside0.mk H
  clear H
  have p305 : 0 ≤ (x6_2 : Int) := of_decide_eq_true (by first | (with_reducible assumption) | assumption)
  have q305 : x6_2 < (l0.length : Int) := of_decide_eq_true (by first | (with_reducible assumption) | assumption)
  obtain ⟨ad305, A305_0, c305_0, e305, hx305_0, hl305_0, hi305_0⟩ := at_L4 HR0.out x6_2 p305 q305
  cases e305
  replace hx305_0 := (HB.out.cell (World.block_lt_of_cell? w _ hx305_0)).trans hx305_0
  have HR305_0 := Aside0.mk hi305_0
  have HC305_0 := Aside0.mk hl305_0
  clear hi305_0 hl305_0
  replace p305 := eq_true p305
  replace q305 := eq_true q305
  go_wp2
  go_roundg k3
  case measure => have := HK1.out; have := HK2.out; have := HK3.out; omega
  case rel => exact ⟨(x4_3), (wrap64 (x6_2 - 1)), (by first | rfl | (simp; done) | (simp [*]; done) | (simp [ne_nil_bytes]; done) | (simp [eq_nil_bytes]; done)), H', ⟨by have := HK1.out; have := HK2.out; have := HK3.out; omega⟩, ⟨by exact rL HO_4.out⟩, ⟨hL HB.out⟩⟩
 rw [if_pos c9] at H
 have c9b0 : decide (x7_3 < ((rd_L4 l0 x6_2).length : Int)) = true := decide_eq_true c9
 clear c9
 by_cases c10 : 0 ≤ x7_3
 rotate_left
 ·rw [if_neg c10] at H
  exact absurd H (by simp)
 rw [if_pos c10] at H
 have c10b0 : decide (0 ≤ x7_3) = true := decide_eq_true c10
 clear c10
 replace H := Option.bind_eq_some_iff.mp H
 obtain ⟨t308, A110, H⟩ := H
 replace H : (shelfmarkref09_Merge.l2 k3 l0 t308 x6_2 (wrap64 (x7_3 + 1))) = some (r1, r2) := H
 have A11 := Aside0.mk A110
 clear A110
 have H' := Aside0.mk H
 clear H
 have p305 : 0 ≤ (x6_2 : Int) := of_decide_eq_true (by first | (with_reducible assumption) | assumption)
 have q305 : x6_2 < (l0.length : Int) := of_decide_eq_true (by first | (with_reducible assumption) | assumption)
 obtain ⟨ad305, A305_0, c305_0, e305, hx305_0, hl305_0, hi305_0⟩ := at_L4 HR0.out x6_2 p305 q305
 cases e305
 replace hx305_0 := (HB.out.cell (World.block_lt_of_cell? w _ hx305_0)).trans hx305_0
 have HR305_0 := Aside0.mk hi305_0
 have HC305_0 := Aside0.mk hl305_0
 clear hi305_0 hl305_0
 replace p305 := eq_true p305
 replace q305 := eq_true q305
 have p306 : 0 ≤ (x6_2 : Int) := of_decide_eq_true (by first | (with_reducible assumption) | assumption)
 have q306 : x6_2 < (l0.length : Int) := of_decide_eq_true (by first | (with_reducible assumption) | assumption)
 obtain ⟨ad306, A306_0, c306_0, e306, hx306_0, hl306_0, hi306_0⟩ := at_L4 HR0.out x6_2 p306 q306
 obtain rfl : ad305 = ad306 := (by injection e306)
 replace hx306_0 := (HB.out.cell (World.block_lt_of_cell? w _ hx306_0)).trans hx306_0
 have HR306_0 := Aside0.mk hi306_0
 have HC306_0 := Aside0.mk hl306_0
 clear hi306_0 hl306_0
 replace p306 := eq_true p306
 replace q306 := eq_true q306
 have ea_ := Option.some.inj (hx305_0.symm.trans hx306_0)
 injection ea_ with ea_ en_ ec_
 subst ea_
 subst ec_
 clear en_
 have p307 : 0 ≤ (x7_3 : Int) := of_decide_eq_true (by first | (with_reducible assumption) | assumption)
 have q307 : x7_3 < ((rd_L4 l0 x6_2).length : Int) := of_decide_eq_true (by first | (with_reducible assumption) | assumption)
 obtain ⟨ad307, e307, hx307_0, hx307_1, hx307_2⟩ := at_T37 HR306_0.out x7_3 p307 q307
 cases e307
 replace hx307_0 := (HB.out.cell (World.block_lt_of_cell? w _ hx307_0)).trans hx307_0
 replace hx307_1 := (HB.out.cell (World.block_lt_of_cell? w _ hx307_1)).trans hx307_1
 replace hx307_2 := (HB.out.cell (World.block_lt_of_cell? w _ hx307_2)).trans hx307_2
 replace p307 := eq_true p307
 replace q307 := eq_true q307
 obtain ⟨Ao12, co12, eo12⟩ := Kd.R_slice HO_4.out
 subst eo12
 go_wp2_with (first | ((with_reducible refine gate_callee (f := 30) rfl ?_); refine goesL_ (some 44) rfl rfl Try.func30 (by kernel_rfl) rfl #[.slice Ao12 x4_3.length co12, .agg #[.string ((rd_T37 (rd_L4 l0 x6_2) x7_3).f0), .string ((rd_T37 (rd_L4 l0 x6_2) x7_3).f1), .bool ((rd_T37 (rd_L4 l0 x6_2) x7_3).f2)]] rfl (by (try simp only [List.map_toArray, List.map_cons, List.map_nil]); first | done | rfl | (simp only [List.length_drop, List.length_take]; rfl)) ?_; (with_reducible refine (shelfmarkref09_put.calls k3 _ _ x4_3 ((rd_T37 (rd_L4 l0 x6_2) x7_3).f0) ((rd_T37 (rd_L4 l0 x6_2) x7_3).f1) ((rd_T37 (rd_L4 l0 x6_2) x7_3).f2) t308 _ ?side1 ?side2 A11.out).mono ?_); (case side1 => repeat (first | exact (Kd.R_reads' HO_4.out).2.2 | (with_reducible refine Kd.C_alloc ?_ _) | (with_reducible refine Kd.C_drewN ?_ _) | (with_reducible refine Kd.C_drew ?_))); (case side2 => exact (Kd.R_reads' HO_4.out).2.1); rintro e w13 ⟨v309, rfl, ho0, hb⟩; refine ⟨_, rfl, ?_⟩; have n0_ := Aside0.mk (Kd.R_elder' (rL HO_4.out) (Kd.R_base ho0) hb); have n1_ := Aside0.mk (Kd.R_lower (Kd.R_new' ho0 (Kd.R_lt (rL HO_4.out))) (below_size (hL HB.out))); have n2_ := Aside0.mk (below_step (hL HB.out) hb); clear HO_4; clear HB; have HO_4 := n0_; have HO310 := n1_; have HB := n2_; clear n0_ n1_ n2_; (try clear hb); (try clear hb2); (try clear hk); (try clear hi); (try clear ho0)))
 go_roundg k3
 case measure => have := HK1.out; have := HK2.out; have := HK3.out; omega
 case rel => exact ⟨(t308), (wrap64 (x7_3 + 1)), (by first | rfl | (simp; done) | (simp [*]; done) | (simp [ne_nil_bytes]; done) | (simp [eq_nil_bytes]; done)), H', ⟨by have := HK1.out; have := HK2.out; have := HK3.out; omega⟩, ⟨by (with_reducible repeat (first | apply Kd.R_alloc | apply Kd.R_drewN | apply Kd.R_drew)); exact Kd.R_mono HO310.out (fun _ hk => trivial)⟩, ⟨hL HB.out⟩⟩

end Go.Proofs.Ytkkfkccfnfjbiaa.PAll
