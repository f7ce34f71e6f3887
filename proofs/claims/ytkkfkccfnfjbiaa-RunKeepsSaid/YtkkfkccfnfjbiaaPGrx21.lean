-- Written by a program of this session for this claim (mp.py, over the kit's print); Lean checks it.
import Derived.Test.YtkkfkccfnfjbiaaPGrx0
import Derived.Test.YtkkfkccfnfjbiaaPGrx20
namespace Go.Proofs.Ytkkfkccfnfjbiaa.PGr
open Go.RowKit Go.Proofs.YtkkfkccfnfjbiaaW.PrintWords Go.Proofs.YtkkfkccfnfjbiaaW.PrintLast Go.Proofs.YtkkfkccfnfjbiaaW.PrintMore Go.Proofs.Ytkkfkccfnfjbiaa.Fv Go.Proofs.Ytkkfkccfnfjbiaa.Hl
attribute [local go_sem] max2_int min2_int max_two min_two max_three min_three max_four min_four str_gtr str_leq str_geq cell_set2   -- for this text's walks alone
set_option linter.unusedVariables false
set_option linter.unusedSimpArgs false

/-! ### shelfmarkref09_Make: function 11 -/
def shelfmarkref09_Make.l0 : Nat → List (S37) → List (S37) → Int → Option ((List (S37)))
 | 0, _, _, _ => none
 | k + 1, x0, x3, x4 => if x4 < (x0.length : Int) then (if 0 ≤ x4 then ((shelfmarkref09_put.f k x3 ((rd_T37 x0 x4).f0) ((rd_T37 x0 x4).f1) ((rd_T37 x0 x4).f2)).bind fun t332 => (shelfmarkref09_Make.l0 k x0 t332 (wrap64 (x4 + 1)))) else (none)) else (some x3)
def shelfmarkref09_Make.f (k : Nat) (l0 : List (S37)) : Option ((List (S37))) := shelfmarkref09_Make.l0 k l0 ([] : List (S37)) 0
theorem shelfmarkref09_Make.mono_l : ∀ k, (∀ y0 y1 y2, LeO (shelfmarkref09_Make.l0 k y0 y1 y2) (shelfmarkref09_Make.l0 (k + 1) y0 y1 y2))
 | 0 => fun _ _ _ r h => by simp [shelfmarkref09_Make.l0] at h
 | k + 1 => by
  have ih0 := shelfmarkref09_Make.mono_l k
  ·intro y0 y1 y2
   unfold shelfmarkref09_Make.l0
   repeat' first
   | (with_reducible exact ih0 _ _ _)
   | (with_reducible exact shelfmarkref09_put.mono _ _ _ _ _)
   | (with_reducible exact LeO.refl _)
   | (with_reducible exact LeO.none _)
   | (with_reducible refine LeO.ite ?_ ?_)
   | (with_reducible refine LeO.bind ?_ (fun _ => ?_))
   | exact ih0 _ _ _
   | exact shelfmarkref09_put.mono _ _ _ _ _
   | exact LeO.none _
   | refine LeO.ite ?_ ?_
   | refine LeO.bind ?_ (fun _ => ?_)
theorem shelfmarkref09_Make.mono : ∀ a0 k, LeO (shelfmarkref09_Make.f k a0) (shelfmarkref09_Make.f (k + 1) a0) := by
 intro a0 k
 have ih0 := shelfmarkref09_Make.mono_l k
 unfold shelfmarkref09_Make.f
 repeat' first
   | (with_reducible exact ih0 _ _ _)
   | (with_reducible exact shelfmarkref09_put.mono _ _ _ _ _)
   | (with_reducible exact LeO.refl _)
   | (with_reducible exact LeO.none _)
   | (with_reducible refine LeO.ite ?_ ?_)
   | (with_reducible refine LeO.bind ?_ (fun _ => ?_))
   | exact ih0 _ _ _
   | exact shelfmarkref09_put.mono _ _ _ _ _
   | exact LeO.none _
   | refine LeO.ite ?_ ?_
   | refine LeO.bind ?_ (fun _ => ?_)
set_option maxHeartbeats 8000000 in
set_option maxRecDepth 100000 in
theorem shelfmarkref09_Make.calls (k : Nat) (A0 : Option Addr) (c0 : Nat) (l0 : List (S37)) (r : List (S37)) (w : World) (hr0 : Kd.C k37 w A0 l0.length l0) (hc0 : l0.length ≤ c0) (h : shelfmarkref09_Make.f k l0 = some r) :
  Calls Try.prog 11 #[.slice A0 l0.length c0] w fun e w' => ∃ v0_ : Value, e = .returned (v0_) ∧ Kd.R k37 37 w' w.heap.size (fun _ => True) v0_ r ∧ Below w.heap.size w w' := by
 have hu37 := Try.underlying37
 have HR0 := Aside0.mk hr0
 have HC0 := Aside0.mk hc0
 clear hr0 hc0
 have HB := Aside0.mk (Below.refl w.heap.size w)
 have H : (shelfmarkref09_Make.l0 k l0 ([] : List (S37)) 0) = some r := h
 clear h
 have H' := Aside0.mk H
 clear H
 go_enter Try.func11, Try.ntmps11
 go_wp2
 go_loopg [3, 4] k (fun kq v3 v4 w' => ∃ (x3_1 : List (S37)) (x4_1 : Int), v4 = .int .i64 x4_1 ∧ Aside0 (shelfmarkref09_Make.l0 kq l0 x3_1 x4_1 = some r) ∧ Aside0 (kq ≤ k) ∧ Aside0 (Kd.R k37 37 w' w.heap.size (fun _ => True) v3 x3_1) ∧ Aside0 (Below w.heap.size w w'))
 case atStart => exact ⟨(([] : List (S37))), (0), (by first | rfl | (simp; done) | (simp [*]; done) | (simp [ne_nil_bytes]; done) | (simp [eq_nil_bytes]; done)), H', ⟨Nat.le_refl _⟩, ⟨by first | exact Kd.R_nil _ _ _ _ _ | exact Kd.N_nil _ _ _ _ _ | exact Kd.V_nil _ _ _ _ _ | exact Kd.Q_nil _ _ _ _ _ | exact Kd.S_nil _ _ _ _ _⟩, ⟨hL HB.out⟩⟩
 clear H'
 try clear c1
 obtain ⟨x3_1, x4_1, rfl, HA, HK1, HO_3, HB⟩ := hrel
 rcases gk with _ | k1
 ·exact absurd HA.out (by simp [shelfmarkref09_Make.l0])
 have H := HA.out
 clear HA
 simp only [shelfmarkref09_Make.l0] at H
 by_cases c2 : x4_1 < (l0.length : Int)
 rotate_left
 ·rw [if_neg c2] at H
  have c2b0 : decide (x4_1 < (l0.length : Int)) = false := decide_eq_false c2
  clear c2
  obtain rfl := Option.some.inj H
  simp only [Option.some.injEq, Prod.mk.injEq] at H
  obtain ⟨rfl⟩ := H
  go_wp2
  go_ret
  exact ⟨_, by first | rfl | (simp [errW_none, errW_some] <;> rfl) | (simp [*, errW_none, errW_some] <;> rfl), by exact rL HO_3.out, hL HB.out⟩
 rw [if_pos c2] at H
 have c2b0 : decide (x4_1 < (l0.length : Int)) = true := decide_eq_true c2
 clear c2
 by_cases c3 : 0 ≤ x4_1
 rotate_left
 ·rw [if_neg c3] at H
  exact absurd H (by simp)
 rw [if_pos c3] at H
 have c3b0 : decide (0 ≤ x4_1) = true := decide_eq_true c3
 clear c3
 replace H := Option.bind_eq_some_iff.mp H
 obtain ⟨t332, A40, H⟩ := H
 replace H : (shelfmarkref09_Make.l0 k1 l0 t332 (wrap64 (x4_1 + 1))) = some r := H
 have A4 := Aside0.mk A40
 clear A40
 have H' := Aside0.mk H
 clear H
 have p331 : 0 ≤ (x4_1 : Int) := of_decide_eq_true (by first | (with_reducible assumption) | assumption)
 have q331 : x4_1 < (l0.length : Int) := of_decide_eq_true (by first | (with_reducible assumption) | assumption)
 obtain ⟨ad331, e331, hx331_0, hx331_1, hx331_2⟩ := at_T37 HR0.out x4_1 p331 q331
 cases e331
 replace hx331_0 := (HB.out.cell (World.block_lt_of_cell? w _ hx331_0)).trans hx331_0
 replace hx331_1 := (HB.out.cell (World.block_lt_of_cell? w _ hx331_1)).trans hx331_1
 replace hx331_2 := (HB.out.cell (World.block_lt_of_cell? w _ hx331_2)).trans hx331_2
 replace p331 := eq_true p331
 replace q331 := eq_true q331
 obtain ⟨Ao5, co5, eo5⟩ := Kd.R_slice HO_3.out
 subst eo5
 go_wp2_with (first | ((with_reducible refine gate_callee (f := 30) rfl ?_); refine goesL_ (some 16) rfl rfl Try.func30 (by kernel_rfl) rfl #[.slice Ao5 x3_1.length co5, .agg #[.string ((rd_T37 l0 x4_1).f0), .string ((rd_T37 l0 x4_1).f1), .bool ((rd_T37 l0 x4_1).f2)]] rfl (by (try simp only [List.map_toArray, List.map_cons, List.map_nil]); first | done | rfl | (simp only [List.length_drop, List.length_take]; rfl)) ?_; (with_reducible refine (shelfmarkref09_put.calls k1 _ _ x3_1 ((rd_T37 l0 x4_1).f0) ((rd_T37 l0 x4_1).f1) ((rd_T37 l0 x4_1).f2) t332 _ ?side1 ?side2 A4.out).mono ?_); (case side1 => repeat (first | exact (Kd.R_reads' HO_3.out).2.2 | (with_reducible refine Kd.C_alloc ?_ _) | (with_reducible refine Kd.C_drewN ?_ _) | (with_reducible refine Kd.C_drew ?_))); (case side2 => exact (Kd.R_reads' HO_3.out).2.1); rintro e w6 ⟨v333, rfl, ho0, hb⟩; refine ⟨_, rfl, ?_⟩; have n0_ := Aside0.mk (Kd.R_elder' (rL HO_3.out) (Kd.R_base ho0) hb); have n1_ := Aside0.mk (Kd.R_lower (Kd.R_new' ho0 (Kd.R_lt (rL HO_3.out))) (below_size (hL HB.out))); have n2_ := Aside0.mk (below_step (hL HB.out) hb); clear HO_3; clear HB; have HO_3 := n0_; have HO334 := n1_; have HB := n2_; clear n0_ n1_ n2_; (try clear hb); (try clear hb2); (try clear hk); (try clear hi); (try clear ho0)))
 go_roundg k1
 case measure => have := HK1.out; omega
 case rel => exact ⟨(t332), (wrap64 (x4_1 + 1)), (by first | rfl | (simp; done) | (simp [*]; done) | (simp [ne_nil_bytes]; done) | (simp [eq_nil_bytes]; done)), H', ⟨by have := HK1.out; omega⟩, ⟨by (with_reducible repeat (first | apply Kd.R_alloc | apply Kd.R_drewN | apply Kd.R_drew)); exact Kd.R_mono HO334.out (fun _ hk => trivial)⟩, ⟨hL HB.out⟩⟩

-- NOT PRINTED: function 8 (shelfmarklaw09_RunKeeps)

end Go.Proofs.Ytkkfkccfnfjbiaa.PGr
