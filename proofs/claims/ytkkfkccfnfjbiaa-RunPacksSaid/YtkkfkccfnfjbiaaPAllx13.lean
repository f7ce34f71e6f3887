-- Written by a program of this session for this claim (mp.py, over the kit's print); Lean checks it.
import Derived.Test.YtkkfkccfnfjbiaaPAllx0
import Derived.Test.YtkkfkccfnfjbiaaPAllx12
namespace Go.Proofs.Ytkkfkccfnfjbiaa.PAll
open Go.RowKit Go.Proofs.YtkkfkccfnfjbiaaW.PrintWords Go.Proofs.YtkkfkccfnfjbiaaW.PrintLast Go.Proofs.YtkkfkccfnfjbiaaW.PrintMore Go.Proofs.Ytkkfkccfnfjbiaa.Fv Go.Proofs.Ytkkfkccfnfjbiaa.Hl
attribute [local go_sem] max2_int min2_int max_two min_two max_three min_three max_four min_four str_gtr str_leq str_geq cell_set2   -- for this text's walks alone
set_option linter.unusedVariables false
set_option linter.unusedSimpArgs false

/-! ### shelfmarkref09_Pack: function 24 -/
def shelfmarkref09_Pack.l0 : Nat → List (S37) → List Int → Int → Option (List Int × Int)
 | 0, _, _, _ => none
 | k + 1, x0, x4, x5 => if x5 < (x0.length : Int) then (if 0 ≤ x5 then ((shelfmarkref01_Text.f k ((rd_T37 x0 x5).f0)).bind fun t216 => (if x4.length + t216.length < 140737488355328 then ((some (x4 ++ t216 : List Int)).bind fun y219 => (if (rd_T37 x0 x5).f2 = true then (if y219.length < 140737488355328 then ((some (y219 ++ [1] : List Int)).bind fun y223 => ((shelfmarkref01_Text.f k ((rd_T37 x0 x5).f1)).bind fun t227 => (if y223.length + t227.length < 140737488355328 then (shelfmarkref09_Pack.l0 k x0 (y223 ++ t227) (wrap64 (x5 + 1))) else (none)))) else (none)) else (if y219.length < 140737488355328 then ((some (y219 ++ [0] : List Int)).bind fun y233 => ((shelfmarkref01_Text.f k ((rd_T37 x0 x5).f1)).bind fun t237 => (if y233.length + t237.length < 140737488355328 then (shelfmarkref09_Pack.l0 k x0 (y233 ++ t237) (wrap64 (x5 + 1))) else (none)))) else (none)))) else (none))) else (none)) else (some (x4, 0))
def shelfmarkref09_Pack.f (k : Nat) (l0 : List (S37)) : Option (List Int × Int) := (shelfmarkref09_Right.f k l0).bind fun t211 => (if t211 = true then ((shelfmarkref01_Num.f k (l0.length : Int)).bind fun t212 => (shelfmarkref09_Pack.l0 k l0 t212 0)) else (some (([] : List Int), 3)))
theorem shelfmarkref09_Pack.mono_l : ∀ k, (∀ y0 y1 y2, LeO (shelfmarkref09_Pack.l0 k y0 y1 y2) (shelfmarkref09_Pack.l0 (k + 1) y0 y1 y2))
 | 0 => fun _ _ _ r h => by simp [shelfmarkref09_Pack.l0] at h
 | k + 1 => by
  have ih0 := shelfmarkref09_Pack.mono_l k
  ·intro y0 y1 y2
   unfold shelfmarkref09_Pack.l0
   repeat' first
   | (with_reducible exact ih0 _ _ _)
   | (with_reducible exact shelfmarkref01_Num.mono _ _)
   | (with_reducible exact shelfmarkref01_Text.mono _ _)
   | (with_reducible exact shelfmarkref09_Right.mono _ _)
   | (with_reducible exact LeO.refl _)
   | (with_reducible exact LeO.none _)
   | (with_reducible refine LeO.ite ?_ ?_)
   | (with_reducible refine LeO.bind ?_ (fun _ => ?_))
   | exact ih0 _ _ _
   | exact shelfmarkref01_Num.mono _ _
   | exact shelfmarkref01_Text.mono _ _
   | exact shelfmarkref09_Right.mono _ _
   | exact LeO.none _
   | refine LeO.ite ?_ ?_
   | refine LeO.bind ?_ (fun _ => ?_)
theorem shelfmarkref09_Pack.mono : ∀ a0 k, LeO (shelfmarkref09_Pack.f k a0) (shelfmarkref09_Pack.f (k + 1) a0) := by
 intro a0 k
 have ih0 := shelfmarkref09_Pack.mono_l k
 unfold shelfmarkref09_Pack.f
 repeat' first
   | (with_reducible exact ih0 _ _ _)
   | (with_reducible exact shelfmarkref01_Num.mono _ _)
   | (with_reducible exact shelfmarkref01_Text.mono _ _)
   | (with_reducible exact shelfmarkref09_Right.mono _ _)
   | (with_reducible exact LeO.refl _)
   | (with_reducible exact LeO.none _)
   | (with_reducible refine LeO.ite ?_ ?_)
   | (with_reducible refine LeO.bind ?_ (fun _ => ?_))
   | exact ih0 _ _ _
   | exact shelfmarkref01_Num.mono _ _
   | exact shelfmarkref01_Text.mono _ _
   | exact shelfmarkref09_Right.mono _ _
   | exact LeO.none _
   | refine LeO.ite ?_ ?_
   | refine LeO.bind ?_ (fun _ => ?_)
set_option maxHeartbeats 8000000 in
set_option maxRecDepth 100000 in
theorem shelfmarkref09_Pack.calls (k : Nat) (A0 : Option Addr) (c0 : Nat) (l0 : List (S37)) (r1 : List Int) (r2 : Int) (w : World) (hr0 : Kd.C k37 w A0 l0.length l0) (hc0 : l0.length ≤ c0) (h : shelfmarkref09_Pack.f k l0 = some (r1, r2)) :
  Calls Try.prog 24 #[.slice A0 l0.length c0] w fun e w' => ∃ v0_ : Value, e = .returned (.tuple #[v0_, .int .i64 r2]) ∧ Kd.R (Kd.int .u8) 5 w' w.heap.size (fun _ => True) v0_ r1 ∧ Below w.heap.size w w' := by
 have HR0 := Aside0.mk hr0
 have HC0 := Aside0.mk hc0
 clear hr0 hc0
 have HB := Aside0.mk (Below.refl w.heap.size w)
 have H : ((shelfmarkref09_Right.f k l0).bind fun t211 => (if t211 = true then ((shelfmarkref01_Num.f k (l0.length : Int)).bind fun t212 => (shelfmarkref09_Pack.l0 k l0 t212 0)) else (some (([] : List Int), 3)))) = some (r1, r2) := h
 clear h
 replace H := Option.bind_eq_some_iff.mp H
 obtain ⟨t211, A20, H⟩ := H
 replace H : (if t211 = true then ((shelfmarkref01_Num.f k (l0.length : Int)).bind fun t212 => (shelfmarkref09_Pack.l0 k l0 t212 0)) else (some (([] : List Int), 3))) = some (r1, r2) := H
 have A2 := Aside0.mk A20
 clear A20
 by_cases c3 : t211 = true
 rotate_left
 ·replace c3 := Bool.eq_false_iff.mpr c3
  subst c3
  have H1 : (some (([] : List Int), 3)) = some (r1, r2) := by rw [if_neg (show ¬ (false = true) by decide)] at H; exact H
  clear H
  have H := H1
  clear H1
  simp only [Option.some.injEq, Prod.mk.injEq] at H
  obtain ⟨rfl, rfl⟩ := H
  go_enter Try.func24, Try.ntmps24
  go_wp2_with (first | ((with_reducible refine gate_callee (f := 29) rfl ?_); refine goesL_ (some 7) rfl rfl Try.func29 (by kernel_rfl) rfl #[.slice A0 l0.length c0] rfl (by (try simp only [List.map_toArray, List.map_cons, List.map_nil]); first | done | rfl | (simp only [List.length_drop, List.length_take]; rfl)) ?_; (with_reducible refine (shelfmarkref09_Right.calls k _ _ l0 false _ ?side1 ?side2 A2.out).mono ?_); (case side1 => repeat (first | exact HR0.out | (with_reducible refine Kd.C_alloc ?_ _) | (with_reducible refine Kd.C_drewN ?_ _) | (with_reducible refine Kd.C_drew ?_))); (case side2 => exact HC0.out); rintro e w' ⟨rfl, ⟨nd, rfl⟩⟩; refine ⟨_, rfl, ?_⟩))
  go_ret2
  exact ⟨_, by first | rfl | (simp [errW_none, errW_some] <;> rfl) | (simp [*, errW_none, errW_some] <;> rfl), by first | exact Kd.R_nil _ _ _ _ _ | exact Kd.N_nil _ _ _ _ _ | exact Kd.V_nil _ _ _ _ _ | exact Kd.Q_nil _ _ _ _ _ | exact Kd.S_nil _ _ _ _ _, hL HB.out⟩
 subst c3
 have H1 : ((shelfmarkref01_Num.f k (l0.length : Int)).bind fun t212 => (shelfmarkref09_Pack.l0 k l0 t212 0)) = some (r1, r2) := by rw [if_pos rfl] at H; exact H
 clear H
 have H := H1
 clear H1
 replace H := Option.bind_eq_some_iff.mp H
 obtain ⟨t212, A40, H⟩ := H
 replace H : (shelfmarkref09_Pack.l0 k l0 t212 0) = some (r1, r2) := H
 have A4 := Aside0.mk A40
 clear A40
 have H' := Aside0.mk H
 clear H
 go_enter Try.func24, Try.ntmps24
 go_wp2_with (first | ((with_reducible refine gate_callee (f := 29) rfl ?_); refine goesL_ (some 7) rfl rfl Try.func29 (by kernel_rfl) rfl #[.slice A0 l0.length c0] rfl (by (try simp only [List.map_toArray, List.map_cons, List.map_nil]); first | done | rfl | (simp only [List.length_drop, List.length_take]; rfl)) ?_; (with_reducible refine (shelfmarkref09_Right.calls k _ _ l0 true _ ?side1 ?side2 A2.out).mono ?_); (case side1 => repeat (first | exact HR0.out | (with_reducible refine Kd.C_alloc ?_ _) | (with_reducible refine Kd.C_drewN ?_ _) | (with_reducible refine Kd.C_drew ?_))); (case side2 => exact HC0.out); rintro e w' ⟨rfl, ⟨nd, rfl⟩⟩; refine ⟨_, rfl, ?_⟩) | ((with_reducible refine gate_callee (f := 39) rfl ?_); refine goesL_ (some 11) rfl rfl Try.func39 (by kernel_rfl) rfl #[.int .i64 (l0.length : Int)] rfl (by (try simp only [List.map_toArray, List.map_cons, List.map_nil]); first | done | rfl | (simp only [List.length_drop, List.length_take]; rfl)) ?_; (with_reducible refine (shelfmarkref01_Num.calls k (l0.length : Int) t212 _ A4.out).mono ?_); rintro e w5 ⟨v213, rfl, ho0, hb⟩; refine ⟨_, rfl, ?_⟩; have n0_ := Aside0.mk (Kd.R_lower ho0 (below_size (hL HB.out))); have n1_ := Aside0.mk (below_step (hL HB.out) hb); clear HB; have HO214 := n0_; have HB := n1_; clear n0_ n1_; (try clear hb); (try clear hb2); (try clear hk); (try clear hi); (try clear ho0)))
 go_loopg [4, 5] k (fun kq v4 v5 w' => ∃ (x4_1 : List Int) (x5_1 : Int), v5 = .int .i64 x5_1 ∧ Aside0 (shelfmarkref09_Pack.l0 kq l0 x4_1 x5_1 = some (r1, r2)) ∧ Aside0 (kq ≤ k) ∧ Aside0 (Kd.R (Kd.int .u8) 5 w' w.heap.size (fun _ => True) v4 x4_1) ∧ Aside0 (Below w.heap.size w w'))
 case atStart => exact ⟨(t212), (0), (by first | rfl | (simp; done) | (simp [*]; done) | (simp [ne_nil_bytes]; done) | (simp [eq_nil_bytes]; done)), H', ⟨Nat.le_refl _⟩, ⟨by exact rL HO214.out⟩, ⟨hL HB.out⟩⟩
 clear H'
 try clear c2
 try clear p2
 try clear c3
 obtain ⟨x4_1, x5_1, rfl, HA, HK1, HO_4, HB⟩ := hrel
 rcases gk with _ | k1
 ·exact absurd HA.out (by simp [shelfmarkref09_Pack.l0])
 have H := HA.out
 clear HA
 simp only [shelfmarkref09_Pack.l0] at H
 by_cases c6 : x5_1 < (l0.length : Int)
 rotate_left
 ·rw [if_neg c6] at H
  have c6b0 : decide (x5_1 < (l0.length : Int)) = false := decide_eq_false c6
  clear c6
  simp only [Option.some.injEq, Prod.mk.injEq] at H
  obtain ⟨rfl, rfl⟩ := H
  go_wp2
  go_ret2
  exact ⟨_, by first | rfl | (simp [errW_none, errW_some] <;> rfl) | (simp [*, errW_none, errW_some] <;> rfl), by exact rL HO_4.out, hL HB.out⟩
 rw [if_pos c6] at H
 have c6b0 : decide (x5_1 < (l0.length : Int)) = true := decide_eq_true c6
 clear c6
 by_cases c7 : 0 ≤ x5_1
 rotate_left
 ·rw [if_neg c7] at H
  exact absurd H (by simp)
 rw [if_pos c7] at H
 have c7b0 : decide (0 ≤ x5_1) = true := decide_eq_true c7
 clear c7
 replace H := Option.bind_eq_some_iff.mp H
 obtain ⟨t216, A80, H⟩ := H
 replace H : (if x4_1.length + t216.length < 140737488355328 then ((some (x4_1 ++ t216 : List Int)).bind fun y219 => (if (rd_T37 l0 x5_1).f2 = true then (if y219.length < 140737488355328 then ((some (y219 ++ [1] : List Int)).bind fun y223 => ((shelfmarkref01_Text.f k1 ((rd_T37 l0 x5_1).f1)).bind fun t227 => (if y223.length + t227.length < 140737488355328 then (shelfmarkref09_Pack.l0 k1 l0 (y223 ++ t227) (wrap64 (x5_1 + 1))) else (none)))) else (none)) else (if y219.length < 140737488355328 then ((some (y219 ++ [0] : List Int)).bind fun y233 => ((shelfmarkref01_Text.f k1 ((rd_T37 l0 x5_1).f1)).bind fun t237 => (if y233.length + t237.length < 140737488355328 then (shelfmarkref09_Pack.l0 k1 l0 (y233 ++ t237) (wrap64 (x5_1 + 1))) else (none)))) else (none)))) else (none)) = some (r1, r2) := H
 have A8 := Aside0.mk A80
 clear A80
 by_cases c9 : x4_1.length + t216.length < 140737488355328
 rotate_left
 ·rw [if_neg c9] at H
  exact absurd H (by simp)
 rw [if_pos c9] at H
 have LMc9 := Aside0.mk c9
 clear c9
 obtain ⟨y219, hy219⟩ : ∃ y_ : List Int, y_ = (x4_1 ++ t216) := ⟨_, rfl⟩
 replace H : (if (rd_T37 l0 x5_1).f2 = true then (if y219.length < 140737488355328 then ((some (y219 ++ [1] : List Int)).bind fun y223 => ((shelfmarkref01_Text.f k1 ((rd_T37 l0 x5_1).f1)).bind fun t227 => (if y223.length + t227.length < 140737488355328 then (shelfmarkref09_Pack.l0 k1 l0 (y223 ++ t227) (wrap64 (x5_1 + 1))) else (none)))) else (none)) else (if y219.length < 140737488355328 then ((some (y219 ++ [0] : List Int)).bind fun y233 => ((shelfmarkref01_Text.f k1 ((rd_T37 l0 x5_1).f1)).bind fun t237 => (if y233.length + t237.length < 140737488355328 then (shelfmarkref09_Pack.l0 k1 l0 (y233 ++ t237) (wrap64 (x5_1 + 1))) else (none)))) else (none))) = some (r1, r2) := by first | (rw [hy219]; with_reducible exact H) | (have H2_ := (Option.bind_some _ _).symm.trans H; rw [hy219]; with_reducible exact H2_) | (have H2_ := (Option.bind_some _ _).symm.trans H; with_reducible exact H2_) | with_reducible exact H | (rw [hy219]; exact H) | exact H
 have Ny219 := Aside0.mk hy219
 clear hy219
 obtain ⟨bq10, hbq10⟩ : ∃ b_ : Bool, b_ = ((rd_T37 l0 x5_1).f2) := ⟨_, rfl⟩
 replace H : (if bq10 = true then (if y219.length < 140737488355328 then ((some (y219 ++ [1] : List Int)).bind fun y223 => ((shelfmarkref01_Text.f k1 ((rd_T37 l0 x5_1).f1)).bind fun t227 => (if y223.length + t227.length < 140737488355328 then (shelfmarkref09_Pack.l0 k1 l0 (y223 ++ t227) (wrap64 (x5_1 + 1))) else (none)))) else (none)) else (if y219.length < 140737488355328 then ((some (y219 ++ [0] : List Int)).bind fun y233 => ((shelfmarkref01_Text.f k1 ((rd_T37 l0 x5_1).f1)).bind fun t237 => (if y233.length + t237.length < 140737488355328 then (shelfmarkref09_Pack.l0 k1 l0 (y233 ++ t237) (wrap64 (x5_1 + 1))) else (none)))) else (none))) = some (r1, r2) := by rw [← hbq10] at H; exact H
 have Nbq10 := Aside0.mk hbq10
 clear hbq10
 by_cases c11 : bq10 = true
 ·subst c11
  have H1 : (if y219.length < 140737488355328 then ((some (y219 ++ [1] : List Int)).bind fun y223 => ((shelfmarkref01_Text.f k1 ((rd_T37 l0 x5_1).f1)).bind fun t227 => (if y223.length + t227.length < 140737488355328 then (shelfmarkref09_Pack.l0 k1 l0 (y223 ++ t227) (wrap64 (x5_1 + 1))) else (none)))) else (none)) = some (r1, r2) := by rw [if_pos rfl] at H; exact H
  clear H
  have H := H1
  clear H1
  by_cases c12 : y219.length < 140737488355328
  rotate_left
  ·rw [if_neg c12] at H
   exact absurd H (by simp)
  rw [if_pos c12] at H
  have LMc12 := Aside0.mk c12
  clear c12
  obtain ⟨y223, hy223⟩ : ∃ y_ : List Int, y_ = (y219 ++ [1]) := ⟨_, rfl⟩
  replace H : ((shelfmarkref01_Text.f k1 ((rd_T37 l0 x5_1).f1)).bind fun t227 => (if y223.length + t227.length < 140737488355328 then (shelfmarkref09_Pack.l0 k1 l0 (y223 ++ t227) (wrap64 (x5_1 + 1))) else (none))) = some (r1, r2) := by first | (rw [hy223]; with_reducible exact H) | (have H2_ := (Option.bind_some _ _).symm.trans H; rw [hy223]; with_reducible exact H2_) | (have H2_ := (Option.bind_some _ _).symm.trans H; with_reducible exact H2_) | with_reducible exact H | (rw [hy223]; exact H) | exact H
  have Ny223 := Aside0.mk hy223
  clear hy223
  replace H := Option.bind_eq_some_iff.mp H
  obtain ⟨t227, A130, H⟩ := H
  replace H : (if y223.length + t227.length < 140737488355328 then (shelfmarkref09_Pack.l0 k1 l0 (y223 ++ t227) (wrap64 (x5_1 + 1))) else (none)) = some (r1, r2) := H
  have A13 := Aside0.mk A130
  clear A130
  by_cases c14 : y223.length + t227.length < 140737488355328
  rotate_left
  ·rw [if_neg c14] at H
   exact absurd H (by simp)
  rw [if_pos c14] at H
  have LMc14 := Aside0.mk c14
  clear c14
  obtain ⟨y230, hy230⟩ : ∃ y_ : List Int, y_ = (y223 ++ t227) := ⟨_, rfl⟩
  replace H : (shelfmarkref09_Pack.l0 k1 l0 y230 (wrap64 (x5_1 + 1))) = some (r1, r2) := by first | (rw [hy230]; with_reducible exact H) | (have H2_ := (Option.bind_some _ _).symm.trans H; rw [hy230]; with_reducible exact H2_) | (have H2_ := (Option.bind_some _ _).symm.trans H; with_reducible exact H2_) | with_reducible exact H | (rw [hy230]; exact H) | exact H
  have Ny230 := Aside0.mk hy230
  clear hy230
  have H' := Aside0.mk H
  clear H
  have p215 : 0 ≤ (x5_1 : Int) := of_decide_eq_true (by first | (with_reducible assumption) | assumption)
  have q215 : x5_1 < (l0.length : Int) := of_decide_eq_true (by first | (with_reducible assumption) | assumption)
  obtain ⟨ad215, e215, hx215_0, hx215_1, hx215_2⟩ := at_T37 HR0.out x5_1 p215 q215
  (try rw [← Nbq10.out] at hx215_2)
  cases e215
  replace hx215_0 := (HB.out.cell (World.block_lt_of_cell? w _ hx215_0)).trans hx215_0
  replace hx215_1 := (HB.out.cell (World.block_lt_of_cell? w _ hx215_1)).trans hx215_1
  replace hx215_2 := (HB.out.cell (World.block_lt_of_cell? w _ hx215_2)).trans hx215_2
  replace p215 := eq_true p215
  replace q215 := eq_true q215
  go_wp2_with (first | ((with_reducible refine gate_callee (f := 40) rfl ?_); refine goesL_ (some 24) rfl rfl Try.func40 (by kernel_rfl) rfl #[.string ((rd_T37 l0 x5_1).f0)] rfl (by (try simp only [List.map_toArray, List.map_cons, List.map_nil]); first | done | rfl | (simp only [List.length_drop, List.length_take]; rfl)) ?_; (with_reducible refine (shelfmarkref01_Text.calls k1 ((rd_T37 l0 x5_1).f0) t216 _ A8.out).mono ?_); rintro e w15 ⟨v217, rfl, ho0, hb⟩; refine ⟨_, rfl, ?_⟩; have n0_ := Aside0.mk (Kd.R_elder' (rL HO_4.out) (Kd.R_base ho0) hb); have n1_ := Aside0.mk (Kd.R_lower (Kd.R_new' ho0 (Kd.R_lt (rL HO_4.out))) (below_size (hL HB.out))); have n2_ := Aside0.mk (below_step (hL HB.out) hb); clear HO_4; clear HB; have HO_4 := n0_; have HO218 := n1_; have HB := n2_; clear n0_ n1_ n2_; (try clear hb); (try clear hb2); (try clear hk); (try clear hi); (try clear ho0); obtain ⟨Ao17, co17, eo17⟩ := Kd.R_slice HO218.out; subst eo17) | ((with_reducible refine gate_builtin (b := .append) (xs := #[.tmp 18, .tmp 24]) rfl ?_); at_builtin; refine Kd.R_append_rows (Kd.int .u8) (w0 := w) w.heap.size rfl (.tmp 18) (.tmp 24) 45 5 (.int .u8 0) 1 rfl Try.underlying45 info5 rfl (by decide) (by omega) u4 x4_1 t216 _ _ _ (fun k_ => some k_ ≠ (.slice Ao17 t216.length co17 : Value).ownBlock) (fun _ => False) rfl rfl ?aO ?aR (fun _ _ h => h) (fun _ h => h.elim) ?aF ?aB ?aS ?aL ?_; (case aR => repeat (first | exact (Kd.R_reads' HO218.out).2.2 | (with_reducible refine Kd.C_alloc ?_ _) | (with_reducible refine Kd.C_drewN ?_ _) | (with_reducible refine Kd.C_drew ?_))); (case aB => exact (hL HB.out)); (case aF => exact (fun k_ hk => Kd.fresh' (Kd.R_lt (rL HO218.out)) k_ hk)); (case aO => exact (by (with_reducible repeat (first | apply Kd.R_alloc | apply Kd.R_drewN | apply Kd.R_drew)); exact Kd.R_mono HO_4.out (fun _ hk => hk.2))); (case aS => exact (below_size (hL HB.out))); (case aL => have := LMc9.out; omega); intro v220 w16 ho hb hg hat; rw [← Ny219.out] at ho; have n0_ := Aside0.mk (Kd.R_after (ok := (fun _ => True)) (rL HO218.out) hg hat); have n1_ := Aside0.mk (hb); have n2_ := Aside0.mk (ho); clear HO218; clear HB; clear HO_4; have HO218 := n0_; have HB := n1_; have HO221 := n2_; clear n0_ n1_ n2_; clear ho hb hg hat; have p222 : 0 ≤ (x5_1 : Int) := of_decide_eq_true (by first | (with_reducible assumption) | assumption); have q222 : x5_1 < (l0.length : Int) := of_decide_eq_true (by first | (with_reducible assumption) | assumption); obtain ⟨ad222, e222, hx222_0, hx222_1, hx222_2⟩ := at_T37 HR0.out x5_1 p222 q222; (try rw [← Nbq10.out] at hx222_2); obtain rfl : ad215 = ad222 := (by injection e222); replace hx222_0 := (HB.out.cell (World.block_lt_of_cell? w _ hx222_0)).trans hx222_0; replace hx222_1 := (HB.out.cell (World.block_lt_of_cell? w _ hx222_1)).trans hx222_1; replace hx222_2 := (HB.out.cell (World.block_lt_of_cell? w _ hx222_2)).trans hx222_2; replace p222 := eq_true p222; replace q222 := eq_true q222) | ((with_reducible refine gate_builtin (b := .append) (xs := #[.tmp 31, .tmp 32]) rfl ?_); at_builtin; refine Kd.R_append (Kd.int .u8) (w0 := w) w.heap.size rfl (.tmp 31) (.tmp 32) 45 5 (.int .u8 0) 1 rfl Try.underlying45 info5 rfl (by decide) (by omega) v220 y219 1 [.int .u8 1] (fun k_ => some k_ ≠ (.slice Ao17 t216.length co17 : Value).ownBlock) (fun _ => False) rfl rfl ?aP (fun _ hk => hk.elim) ?aF ?aO ?aB ?aS ?aL ?_; (case aP => exact rfl); (case aB => exact (hL HB.out)); (case aF => exact (fun k_ hk => Kd.fresh' (Kd.R_lt (rL HO218.out)) k_ hk)); (case aO => exact (rL HO221.out)); (case aS => exact (below_size (hL HB.out))); (case aL => have := LMc12.out; omega); intro v224 w18 ho hb hg hat; rw [← Ny223.out] at ho; have n0_ := Aside0.mk (Kd.R_after (ok := (fun _ => True)) (rL HO218.out) hg hat); have n1_ := Aside0.mk (hb); have n2_ := Aside0.mk (ho); clear HO218; clear HB; clear HO221; have HO218 := n0_; have HB := n1_; have HO225 := n2_; clear n0_ n1_ n2_; clear ho hb hg hat; have p226 : 0 ≤ (x5_1 : Int) := of_decide_eq_true (by first | (with_reducible assumption) | assumption); have q226 : x5_1 < (l0.length : Int) := of_decide_eq_true (by first | (with_reducible assumption) | assumption); obtain ⟨ad226, e226, hx226_0, hx226_1, hx226_2⟩ := at_T37 HR0.out x5_1 p226 q226; (try rw [← Nbq10.out] at hx226_2); obtain rfl : ad215 = ad226 := (by injection e226); replace hx226_0 := (HB.out.cell (World.block_lt_of_cell? w _ hx226_0)).trans hx226_0; replace hx226_1 := (HB.out.cell (World.block_lt_of_cell? w _ hx226_1)).trans hx226_1; replace hx226_2 := (HB.out.cell (World.block_lt_of_cell? w _ hx226_2)).trans hx226_2; replace p226 := eq_true p226; replace q226 := eq_true q226) | ((with_reducible refine gate_callee (f := 40) rfl ?_); refine goesL_ (some 43) rfl rfl Try.func40 (by kernel_rfl) rfl #[.string ((rd_T37 l0 x5_1).f1)] rfl (by (try simp only [List.map_toArray, List.map_cons, List.map_nil]); first | done | rfl | (simp only [List.length_drop, List.length_take]; rfl)) ?_; (with_reducible refine (shelfmarkref01_Text.calls k1 ((rd_T37 l0 x5_1).f1) t227 _ A13.out).mono ?_); rintro e w19 ⟨v228, rfl, ho0, hb⟩; refine ⟨_, rfl, ?_⟩; have n0_ := Aside0.mk (Kd.R_elder' (rL HO218.out) (Kd.R_base ho0) hb); have n1_ := Aside0.mk (Kd.R_elder' (rL HO225.out) (Kd.R_base ho0) hb); have n2_ := Aside0.mk (Kd.R_lower (Kd.R_new' (Kd.R_new' ho0 (Kd.R_lt (rL HO218.out))) (Kd.R_lt (rL HO225.out))) (below_size (hL HB.out))); have n3_ := Aside0.mk (below_step (hL HB.out) hb); clear HO218; clear HO225; clear HB; have HO218 := n0_; have HO225 := n1_; have HO229 := n2_; have HB := n3_; clear n0_ n1_ n2_ n3_; (try clear hb); (try clear hb2); (try clear hk); (try clear hi); (try clear ho0); obtain ⟨Ao21, co21, eo21⟩ := Kd.R_slice HO229.out; subst eo21) | ((with_reducible refine gate_builtin (b := .append) (xs := #[.tmp 37, .tmp 43]) rfl ?_); at_builtin; refine Kd.R_append_rows (Kd.int .u8) (w0 := w) w.heap.size rfl (.tmp 37) (.tmp 43) 45 5 (.int .u8 0) 1 rfl Try.underlying45 info5 rfl (by decide) (by omega) v224 y223 t227 _ _ _ (fun k_ => some k_ ≠ (.slice Ao17 t216.length co17 : Value).ownBlock ∧ some k_ ≠ (.slice Ao21 t227.length co21 : Value).ownBlock) (fun _ => False) rfl rfl ?aO ?aR (fun _ _ h => h) (fun _ h => h.elim) ?aF ?aB ?aS ?aL ?_; (case aR => repeat (first | exact (Kd.R_reads' HO229.out).2.2 | (with_reducible refine Kd.C_alloc ?_ _) | (with_reducible refine Kd.C_drewN ?_ _) | (with_reducible refine Kd.C_drew ?_))); (case aB => exact (hL HB.out)); (case aF => exact (fun k_ hk => ⟨Kd.fresh' (Kd.R_lt (rL HO218.out)) k_ hk, Kd.fresh' (Kd.R_lt (rL HO229.out)) k_ hk⟩)); (case aO => exact (rL HO225.out)); (case aS => exact (below_size (hL HB.out))); (case aL => have := LMc14.out; omega); intro v231 w20 ho hb hg hat; rw [← Ny230.out] at ho; have n0_ := Aside0.mk (Kd.R_after (ok := (fun k_ => some k_ ≠ (.slice Ao21 t227.length co21 : Value).ownBlock)) (by (with_reducible repeat (first | apply Kd.R_alloc | apply Kd.R_drewN | apply Kd.R_drew)); exact Kd.R_mono HO218.out (fun _ hk => ⟨hk.2, hk.1.2⟩)) hg hat); have n1_ := Aside0.mk (Kd.R_after (ok := (fun k_ => some k_ ≠ (.slice Ao17 t216.length co17 : Value).ownBlock)) (by (with_reducible repeat (first | apply Kd.R_alloc | apply Kd.R_drewN | apply Kd.R_drew)); exact Kd.R_mono HO229.out (fun _ hk => ⟨hk.1.2, hk.2⟩)) hg hat); have n2_ := Aside0.mk (hb); have n3_ := Aside0.mk (ho); clear HO218; clear HO229; clear HB; clear HO225; have HO218 := n0_; have HO229 := n1_; have HB := n2_; have HO232 := n3_; clear n0_ n1_ n2_ n3_; clear ho hb hg hat))
  go_roundg k1
  case measure => have := HK1.out; omega
  case rel => (first | exact ⟨(y230), (wrap64 (x5_1 + 1)), (by first | rfl | (simp; done) | (simp [*]; done) | (simp [ne_nil_bytes]; done) | (simp [eq_nil_bytes]; done)), H', ⟨by have := HK1.out; omega⟩, ⟨by (with_reducible repeat (first | apply Kd.R_alloc | apply Kd.R_drewN | apply Kd.R_drew)); exact Kd.R_mono HO232.out (fun _ hk => trivial)⟩, ⟨hL HB.out⟩⟩ | ((try rw [← Nbq10.out]); exact ⟨(y230), (wrap64 (x5_1 + 1)), (by first | rfl | (simp; done) | (simp [*]; done) | (simp [ne_nil_bytes]; done) | (simp [eq_nil_bytes]; done)), H', ⟨by have := HK1.out; omega⟩, ⟨by (with_reducible repeat (first | apply Kd.R_alloc | apply Kd.R_drewN | apply Kd.R_drew)); exact Kd.R_mono HO232.out (fun _ hk => trivial)⟩, ⟨hL HB.out⟩⟩))
 replace c11 := Bool.eq_false_iff.mpr c11
 subst c11
 have H1 : (if y219.length < 140737488355328 then ((some (y219 ++ [0] : List Int)).bind fun y233 => ((shelfmarkref01_Text.f k1 ((rd_T37 l0 x5_1).f1)).bind fun t237 => (if y233.length + t237.length < 140737488355328 then (shelfmarkref09_Pack.l0 k1 l0 (y233 ++ t237) (wrap64 (x5_1 + 1))) else (none)))) else (none)) = some (r1, r2) := by rw [if_neg (show ¬ (false = true) by decide)] at H; exact H
 clear H
 have H := H1
 clear H1
 by_cases c22 : y219.length < 140737488355328
 rotate_left
 ·rw [if_neg c22] at H
  exact absurd H (by simp)
 rw [if_pos c22] at H
 have LMc22 := Aside0.mk c22
 clear c22
 obtain ⟨y233, hy233⟩ : ∃ y_ : List Int, y_ = (y219 ++ [0]) := ⟨_, rfl⟩
 replace H : ((shelfmarkref01_Text.f k1 ((rd_T37 l0 x5_1).f1)).bind fun t237 => (if y233.length + t237.length < 140737488355328 then (shelfmarkref09_Pack.l0 k1 l0 (y233 ++ t237) (wrap64 (x5_1 + 1))) else (none))) = some (r1, r2) := by first | (rw [hy233]; with_reducible exact H) | (have H2_ := (Option.bind_some _ _).symm.trans H; rw [hy233]; with_reducible exact H2_) | (have H2_ := (Option.bind_some _ _).symm.trans H; with_reducible exact H2_) | with_reducible exact H | (rw [hy233]; exact H) | exact H
 have Ny233 := Aside0.mk hy233
 clear hy233
 replace H := Option.bind_eq_some_iff.mp H
 obtain ⟨t237, A230, H⟩ := H
 replace H : (if y233.length + t237.length < 140737488355328 then (shelfmarkref09_Pack.l0 k1 l0 (y233 ++ t237) (wrap64 (x5_1 + 1))) else (none)) = some (r1, r2) := H
 have A23 := Aside0.mk A230
 clear A230
 by_cases c24 : y233.length + t237.length < 140737488355328
 rotate_left
 ·rw [if_neg c24] at H
  exact absurd H (by simp)
 rw [if_pos c24] at H
 have LMc24 := Aside0.mk c24
 clear c24
 obtain ⟨y240, hy240⟩ : ∃ y_ : List Int, y_ = (y233 ++ t237) := ⟨_, rfl⟩
 replace H : (shelfmarkref09_Pack.l0 k1 l0 y240 (wrap64 (x5_1 + 1))) = some (r1, r2) := by first | (rw [hy240]; with_reducible exact H) | (have H2_ := (Option.bind_some _ _).symm.trans H; rw [hy240]; with_reducible exact H2_) | (have H2_ := (Option.bind_some _ _).symm.trans H; with_reducible exact H2_) | with_reducible exact H | (rw [hy240]; exact H) | exact H
 have Ny240 := Aside0.mk hy240
 clear hy240
 have H' := Aside0.mk H
 clear H
 have p215 : 0 ≤ (x5_1 : Int) := of_decide_eq_true (by first | (with_reducible assumption) | assumption)
 have q215 : x5_1 < (l0.length : Int) := of_decide_eq_true (by first | (with_reducible assumption) | assumption)
 obtain ⟨ad215, e215, hx215_0, hx215_1, hx215_2⟩ := at_T37 HR0.out x5_1 p215 q215
 (try rw [← Nbq10.out] at hx215_2)
 cases e215
 replace hx215_0 := (HB.out.cell (World.block_lt_of_cell? w _ hx215_0)).trans hx215_0
 replace hx215_1 := (HB.out.cell (World.block_lt_of_cell? w _ hx215_1)).trans hx215_1
 replace hx215_2 := (HB.out.cell (World.block_lt_of_cell? w _ hx215_2)).trans hx215_2
 replace p215 := eq_true p215
 replace q215 := eq_true q215
 go_wp2_with (first | ((with_reducible refine gate_callee (f := 40) rfl ?_); refine goesL_ (some 24) rfl rfl Try.func40 (by kernel_rfl) rfl #[.string ((rd_T37 l0 x5_1).f0)] rfl (by (try simp only [List.map_toArray, List.map_cons, List.map_nil]); first | done | rfl | (simp only [List.length_drop, List.length_take]; rfl)) ?_; (with_reducible refine (shelfmarkref01_Text.calls k1 ((rd_T37 l0 x5_1).f0) t216 _ A8.out).mono ?_); rintro e w25 ⟨v217, rfl, ho0, hb⟩; refine ⟨_, rfl, ?_⟩; have n0_ := Aside0.mk (Kd.R_elder' (rL HO_4.out) (Kd.R_base ho0) hb); have n1_ := Aside0.mk (Kd.R_lower (Kd.R_new' ho0 (Kd.R_lt (rL HO_4.out))) (below_size (hL HB.out))); have n2_ := Aside0.mk (below_step (hL HB.out) hb); clear HO_4; clear HB; have HO_4 := n0_; have HO218 := n1_; have HB := n2_; clear n0_ n1_ n2_; (try clear hb); (try clear hb2); (try clear hk); (try clear hi); (try clear ho0); obtain ⟨Ao27, co27, eo27⟩ := Kd.R_slice HO218.out; subst eo27) | ((with_reducible refine gate_builtin (b := .append) (xs := #[.tmp 18, .tmp 24]) rfl ?_); at_builtin; refine Kd.R_append_rows (Kd.int .u8) (w0 := w) w.heap.size rfl (.tmp 18) (.tmp 24) 45 5 (.int .u8 0) 1 rfl Try.underlying45 info5 rfl (by decide) (by omega) u4 x4_1 t216 _ _ _ (fun k_ => some k_ ≠ (.slice Ao27 t216.length co27 : Value).ownBlock) (fun _ => False) rfl rfl ?aO ?aR (fun _ _ h => h) (fun _ h => h.elim) ?aF ?aB ?aS ?aL ?_; (case aR => repeat (first | exact (Kd.R_reads' HO218.out).2.2 | (with_reducible refine Kd.C_alloc ?_ _) | (with_reducible refine Kd.C_drewN ?_ _) | (with_reducible refine Kd.C_drew ?_))); (case aB => exact (hL HB.out)); (case aF => exact (fun k_ hk => Kd.fresh' (Kd.R_lt (rL HO218.out)) k_ hk)); (case aO => exact (by (with_reducible repeat (first | apply Kd.R_alloc | apply Kd.R_drewN | apply Kd.R_drew)); exact Kd.R_mono HO_4.out (fun _ hk => hk.2))); (case aS => exact (below_size (hL HB.out))); (case aL => have := LMc9.out; omega); intro v220 w26 ho hb hg hat; rw [← Ny219.out] at ho; have n0_ := Aside0.mk (Kd.R_after (ok := (fun _ => True)) (rL HO218.out) hg hat); have n1_ := Aside0.mk (hb); have n2_ := Aside0.mk (ho); clear HO218; clear HB; clear HO_4; have HO218 := n0_; have HB := n1_; have HO221 := n2_; clear n0_ n1_ n2_; clear ho hb hg hat; have p222 : 0 ≤ (x5_1 : Int) := of_decide_eq_true (by first | (with_reducible assumption) | assumption); have q222 : x5_1 < (l0.length : Int) := of_decide_eq_true (by first | (with_reducible assumption) | assumption); obtain ⟨ad222, e222, hx222_0, hx222_1, hx222_2⟩ := at_T37 HR0.out x5_1 p222 q222; (try rw [← Nbq10.out] at hx222_2); obtain rfl : ad215 = ad222 := (by injection e222); replace hx222_0 := (HB.out.cell (World.block_lt_of_cell? w _ hx222_0)).trans hx222_0; replace hx222_1 := (HB.out.cell (World.block_lt_of_cell? w _ hx222_1)).trans hx222_1; replace hx222_2 := (HB.out.cell (World.block_lt_of_cell? w _ hx222_2)).trans hx222_2; replace p222 := eq_true p222; replace q222 := eq_true q222) | ((with_reducible refine gate_builtin (b := .append) (xs := #[.tmp 34, .tmp 35]) rfl ?_); at_builtin; refine Kd.R_append (Kd.int .u8) (w0 := w) w.heap.size rfl (.tmp 34) (.tmp 35) 45 5 (.int .u8 0) 1 rfl Try.underlying45 info5 rfl (by decide) (by omega) v220 y219 0 [.int .u8 0] (fun k_ => some k_ ≠ (.slice Ao27 t216.length co27 : Value).ownBlock) (fun _ => False) rfl rfl ?aP (fun _ hk => hk.elim) ?aF ?aO ?aB ?aS ?aL ?_; (case aP => exact rfl); (case aB => exact (hL HB.out)); (case aF => exact (fun k_ hk => Kd.fresh' (Kd.R_lt (rL HO218.out)) k_ hk)); (case aO => exact (rL HO221.out)); (case aS => exact (below_size (hL HB.out))); (case aL => have := LMc22.out; omega); intro v234 w28 ho hb hg hat; rw [← Ny233.out] at ho; have n0_ := Aside0.mk (Kd.R_after (ok := (fun _ => True)) (rL HO218.out) hg hat); have n1_ := Aside0.mk (hb); have n2_ := Aside0.mk (ho); clear HO218; clear HB; clear HO221; have HO218 := n0_; have HB := n1_; have HO235 := n2_; clear n0_ n1_ n2_; clear ho hb hg hat; have p236 : 0 ≤ (x5_1 : Int) := of_decide_eq_true (by first | (with_reducible assumption) | assumption); have q236 : x5_1 < (l0.length : Int) := of_decide_eq_true (by first | (with_reducible assumption) | assumption); obtain ⟨ad236, e236, hx236_0, hx236_1, hx236_2⟩ := at_T37 HR0.out x5_1 p236 q236; (try rw [← Nbq10.out] at hx236_2); obtain rfl : ad215 = ad236 := (by injection e236); replace hx236_0 := (HB.out.cell (World.block_lt_of_cell? w _ hx236_0)).trans hx236_0; replace hx236_1 := (HB.out.cell (World.block_lt_of_cell? w _ hx236_1)).trans hx236_1; replace hx236_2 := (HB.out.cell (World.block_lt_of_cell? w _ hx236_2)).trans hx236_2; replace p236 := eq_true p236; replace q236 := eq_true q236) | ((with_reducible refine gate_callee (f := 40) rfl ?_); refine goesL_ (some 43) rfl rfl Try.func40 (by kernel_rfl) rfl #[.string ((rd_T37 l0 x5_1).f1)] rfl (by (try simp only [List.map_toArray, List.map_cons, List.map_nil]); first | done | rfl | (simp only [List.length_drop, List.length_take]; rfl)) ?_; (with_reducible refine (shelfmarkref01_Text.calls k1 ((rd_T37 l0 x5_1).f1) t237 _ A23.out).mono ?_); rintro e w29 ⟨v238, rfl, ho0, hb⟩; refine ⟨_, rfl, ?_⟩; have n0_ := Aside0.mk (Kd.R_elder' (rL HO218.out) (Kd.R_base ho0) hb); have n1_ := Aside0.mk (Kd.R_elder' (rL HO235.out) (Kd.R_base ho0) hb); have n2_ := Aside0.mk (Kd.R_lower (Kd.R_new' (Kd.R_new' ho0 (Kd.R_lt (rL HO218.out))) (Kd.R_lt (rL HO235.out))) (below_size (hL HB.out))); have n3_ := Aside0.mk (below_step (hL HB.out) hb); clear HO218; clear HO235; clear HB; have HO218 := n0_; have HO235 := n1_; have HO239 := n2_; have HB := n3_; clear n0_ n1_ n2_ n3_; (try clear hb); (try clear hb2); (try clear hk); (try clear hi); (try clear ho0); obtain ⟨Ao31, co31, eo31⟩ := Kd.R_slice HO239.out; subst eo31) | ((with_reducible refine gate_builtin (b := .append) (xs := #[.tmp 37, .tmp 43]) rfl ?_); at_builtin; refine Kd.R_append_rows (Kd.int .u8) (w0 := w) w.heap.size rfl (.tmp 37) (.tmp 43) 45 5 (.int .u8 0) 1 rfl Try.underlying45 info5 rfl (by decide) (by omega) v234 y233 t237 _ _ _ (fun k_ => some k_ ≠ (.slice Ao27 t216.length co27 : Value).ownBlock ∧ some k_ ≠ (.slice Ao31 t237.length co31 : Value).ownBlock) (fun _ => False) rfl rfl ?aO ?aR (fun _ _ h => h) (fun _ h => h.elim) ?aF ?aB ?aS ?aL ?_; (case aR => repeat (first | exact (Kd.R_reads' HO239.out).2.2 | (with_reducible refine Kd.C_alloc ?_ _) | (with_reducible refine Kd.C_drewN ?_ _) | (with_reducible refine Kd.C_drew ?_))); (case aB => exact (hL HB.out)); (case aF => exact (fun k_ hk => ⟨Kd.fresh' (Kd.R_lt (rL HO218.out)) k_ hk, Kd.fresh' (Kd.R_lt (rL HO239.out)) k_ hk⟩)); (case aO => exact (rL HO235.out)); (case aS => exact (below_size (hL HB.out))); (case aL => have := LMc24.out; omega); intro v241 w30 ho hb hg hat; rw [← Ny240.out] at ho; have n0_ := Aside0.mk (Kd.R_after (ok := (fun k_ => some k_ ≠ (.slice Ao31 t237.length co31 : Value).ownBlock)) (by (with_reducible repeat (first | apply Kd.R_alloc | apply Kd.R_drewN | apply Kd.R_drew)); exact Kd.R_mono HO218.out (fun _ hk => ⟨hk.2, hk.1.2⟩)) hg hat); have n1_ := Aside0.mk (Kd.R_after (ok := (fun k_ => some k_ ≠ (.slice Ao27 t216.length co27 : Value).ownBlock)) (by (with_reducible repeat (first | apply Kd.R_alloc | apply Kd.R_drewN | apply Kd.R_drew)); exact Kd.R_mono HO239.out (fun _ hk => ⟨hk.1.2, hk.2⟩)) hg hat); have n2_ := Aside0.mk (hb); have n3_ := Aside0.mk (ho); clear HO218; clear HO239; clear HB; clear HO235; have HO218 := n0_; have HO239 := n1_; have HB := n2_; have HO242 := n3_; clear n0_ n1_ n2_ n3_; clear ho hb hg hat))
 go_roundg k1
 case measure => have := HK1.out; omega
 case rel => (first | exact ⟨(y240), (wrap64 (x5_1 + 1)), (by first | rfl | (simp; done) | (simp [*]; done) | (simp [ne_nil_bytes]; done) | (simp [eq_nil_bytes]; done)), H', ⟨by have := HK1.out; omega⟩, ⟨by (with_reducible repeat (first | apply Kd.R_alloc | apply Kd.R_drewN | apply Kd.R_drew)); exact Kd.R_mono HO242.out (fun _ hk => trivial)⟩, ⟨hL HB.out⟩⟩ | ((try rw [← Nbq10.out]); exact ⟨(y240), (wrap64 (x5_1 + 1)), (by first | rfl | (simp; done) | (simp [*]; done) | (simp [ne_nil_bytes]; done) | (simp [eq_nil_bytes]; done)), H', ⟨by have := HK1.out; omega⟩, ⟨by (with_reducible repeat (first | apply Kd.R_alloc | apply Kd.R_drewN | apply Kd.R_drew)); exact Kd.R_mono HO242.out (fun _ hk => trivial)⟩, ⟨hL HB.out⟩⟩))

end Go.Proofs.Ytkkfkccfnfjbiaa.PAll
