-- Written by a program of this session for this claim (mp.py, over the kit's print); Lean checks it.
import Derived.Test.YtdaikljbljcagaaPAllx0
import Derived.Test.YtdaikljbljcagaaPAllx4
namespace Go.Proofs.Ytdaikljbljcagaa.PAll
open Go.RowKit Go.Proofs.YtdaikljbljcagaaW.PrintWords Go.Proofs.YtdaikljbljcagaaW.PrintLast Go.Proofs.YtdaikljbljcagaaW.PrintMore Go.Proofs.Ytdaikljbljcagaa.Fv Go.Proofs.Ytdaikljbljcagaa.Hl
attribute [local go_sem] max2_int min2_int max_two min_two max_three min_three max_four min_four str_gtr str_leq str_geq cell_set2   -- for this text's walks alone
set_option linter.unusedVariables false
set_option linter.unusedSimpArgs false


/-! ### outbox_Latest_1_v40: what a variable holds -/
abbrev outbox_Latest_1_v40.f := @outbox_Latest_1.f
theorem outbox_Latest_1_v40.mono : type_of% @outbox_Latest_1.mono := @outbox_Latest_1.mono
theorem outbox_Latest_1_v40.calls : type_of% @outbox_Latest_1.calls := @outbox_Latest_1.calls

/-! ### outbox_Latest_1_v92: what a variable holds -/
abbrev outbox_Latest_1_v92.f := @outbox_Latest_1.f
theorem outbox_Latest_1_v92.mono : type_of% @outbox_Latest_1.mono := @outbox_Latest_1.mono
theorem outbox_Latest_1_v92.calls : type_of% @outbox_Latest_1.calls := @outbox_Latest_1.calls

/-! ### outbox_Latest_1_v158: what a variable holds -/
abbrev outbox_Latest_1_v158.f := @outbox_Latest_1.f
theorem outbox_Latest_1_v158.mono : type_of% @outbox_Latest_1.mono := @outbox_Latest_1.mono
theorem outbox_Latest_1_v158.calls : type_of% @outbox_Latest_1.calls := @outbox_Latest_1.calls

/-! ### slices_swapRangeCmpFunc_api_Intent_at_outbox_Latest_1: function 79 -/
def slices_swapRangeCmpFunc_api_Intent_at_outbox_Latest_1.l0 : Nat → List (S29) → Int → Int → Int → Int → Option ((List (S29)))
 | 0, _, _, _, _, _ => none
 | k + 1, x0, x1, x2, x3, x10 => if x10 < x3 then (if 0 ≤ (wrap64 (x2 + x10)) then (if (wrap64 (x2 + x10)) < (x0.length : Int) then (if 0 ≤ (wrap64 (x1 + x10)) then (if (wrap64 (x1 + x10)) < (x0.length : Int) then (if ((wrap64 (x1 + x10)) : Int).toNat = ((wrap64 (x2 + x10)) : Int).toNat then none else (slices_swapRangeCmpFunc_api_Intent_at_outbox_Latest_1.l0 k ((x0.set ((wrap64 (x1 + x10)) : Int).toNat (⟨(rd_T29 x0 (wrap64 (x2 + x10))).f0, (rd_T29 x0 (wrap64 (x2 + x10))).f1, (rd_T29 x0 (wrap64 (x2 + x10))).f2⟩ : S29)).set ((wrap64 (x2 + x10)) : Int).toNat (⟨(rd_T29 x0 (wrap64 (x1 + x10))).f0, (rd_T29 x0 (wrap64 (x1 + x10))).f1, (rd_T29 x0 (wrap64 (x1 + x10))).f2⟩ : S29)) x1 x2 x3 (wrap64 (x10 + 1)))) else (none)) else (none)) else (none)) else (none)) else (some x0)
def slices_swapRangeCmpFunc_api_Intent_at_outbox_Latest_1.f (k : Nat) (l0 : List (S29)) (a1 : Int) (a2 : Int) (a3 : Int)  : Option ((List (S29))) := slices_swapRangeCmpFunc_api_Intent_at_outbox_Latest_1.l0 k l0 a1 a2 a3 0
theorem slices_swapRangeCmpFunc_api_Intent_at_outbox_Latest_1.mono_l : ∀ k, (∀ y0 y1 y2 y3 y4, LeO (slices_swapRangeCmpFunc_api_Intent_at_outbox_Latest_1.l0 k y0 y1 y2 y3 y4) (slices_swapRangeCmpFunc_api_Intent_at_outbox_Latest_1.l0 (k + 1) y0 y1 y2 y3 y4))
 | 0 => fun _ _ _ _ _ r h => by simp [slices_swapRangeCmpFunc_api_Intent_at_outbox_Latest_1.l0] at h
 | k + 1 => by
  have ih0 := slices_swapRangeCmpFunc_api_Intent_at_outbox_Latest_1.mono_l k
  ·intro y0 y1 y2 y3 y4
   unfold slices_swapRangeCmpFunc_api_Intent_at_outbox_Latest_1.l0
   repeat' first
   | (with_reducible exact ih0 _ _ _ _ _)
   | (with_reducible exact LeO.refl _)
   | (with_reducible exact LeO.none _)
   | (with_reducible refine LeO.ite ?_ ?_)
   | (with_reducible refine LeO.bind ?_ (fun _ => ?_))
   | exact ih0 _ _ _ _ _
   | exact LeO.none _
   | refine LeO.ite ?_ ?_
   | refine LeO.bind ?_ (fun _ => ?_)
theorem slices_swapRangeCmpFunc_api_Intent_at_outbox_Latest_1.mono : ∀ a0 a1 a2 a3 k, LeO (slices_swapRangeCmpFunc_api_Intent_at_outbox_Latest_1.f k a0 a1 a2 a3) (slices_swapRangeCmpFunc_api_Intent_at_outbox_Latest_1.f (k + 1) a0 a1 a2 a3) := by
 intro a0 a1 a2 a3 k
 have ih0 := slices_swapRangeCmpFunc_api_Intent_at_outbox_Latest_1.mono_l k
 unfold slices_swapRangeCmpFunc_api_Intent_at_outbox_Latest_1.f
 repeat' first
   | (with_reducible exact ih0 _ _ _ _ _)
   | (with_reducible exact LeO.refl _)
   | (with_reducible exact LeO.none _)
   | (with_reducible refine LeO.ite ?_ ?_)
   | (with_reducible refine LeO.bind ?_ (fun _ => ?_))
   | exact ih0 _ _ _ _ _
   | exact LeO.none _
   | refine LeO.ite ?_ ?_
   | refine LeO.bind ?_ (fun _ => ?_)
def slices_swapRangeCmpFunc_api_Intent_at_outbox_Latest_1.T3 : Bool × List (List Nat × List Nat) := (true, [([], []), ([], []), ([], []), ([1, 2], [1, 2]), ([], []), ([], []), ([], []), ([5, 6], [5, 6]), ([], []), ([], []), ([], []), ([9, 10], [9, 10]), ([8, 11], [8, 11]), ([12], [12]), ([], []), ([], []), ([], []), ([15, 16], [15, 16]), ([14, 17], [14, 17]), ([18], [18]), ([0, 3, 0, 1, 2, 3, 8, 9, 10, 11, 12, 13, 19], [0, 3]), ([20, 13, 0, 1, 2, 3, 8, 9, 10, 11, 12, 13, 19], [13, 20]), ([4, 7, 0, 1, 2, 3, 4, 5, 6, 7, 8, 9, 10, 11, 12, 13, 14, 15, 16, 17, 18, 19, 20, 21], [4, 7]), ([22, 19, 21, 0, 1, 2, 3, 4, 5, 6, 7, 8, 9, 10, 11, 12, 13, 14, 15, 16, 17, 18, 19, 20, 21], [19, 22])])
def slices_swapRangeCmpFunc_api_Intent_at_outbox_Latest_1.B3 : List Nat := [0, 0, 0, 6, 0, 0, 0, 96, 0, 0, 0, 1536, 3840, 7936, 0, 0, 0, 98304, 245760, 507904, 1048335, 2096911, 4194303, 8388607]
theorem slices_swapRangeCmpFunc_api_Intent_at_outbox_Latest_1.tab3 : rtab .any (opsOf Try.f79 3) = slices_swapRangeCmpFunc_api_Intent_at_outbox_Latest_1.T3 := by kernel_rfl
theorem slices_swapRangeCmpFunc_api_Intent_at_outbox_Latest_1.bits3 : waitsOk slices_swapRangeCmpFunc_api_Intent_at_outbox_Latest_1.T3.2 slices_swapRangeCmpFunc_api_Intent_at_outbox_Latest_1.B3 = true := by kernel_rfl
set_option maxHeartbeats 8000000 in
set_option maxRecDepth 100000 in
theorem slices_swapRangeCmpFunc_api_Intent_at_outbox_Latest_1.calls (k : Nat) (P0_ : Nat → Prop) (u9000_ : Value) (l0 : List (S29)) (a1 : Int) (a2 : Int) (a3 : Int)  (r : List (S29)) (w0 w : World) (hB : Below w0.heap.size w0 w) (ho0 : Kd.R k29 29 w w0.heap.size P0_ u9000_ l0) (h : slices_swapRangeCmpFunc_api_Intent_at_outbox_Latest_1.f k l0 a1 a2 a3 = some r) :
  Calls Try.prog 79 #[u9000_, .int .i64 a1, .int .i64 a2, .int .i64 a3, .func (.func 30) #[] #[]] w fun e w' => e = .returned (.tuple #[]) ∧ Kd.R k29 29 w' w0.heap.size (fun k_ => (P0_ k_ ∨ w.heap.size ≤ k_)) u9000_ r ∧ Below w0.heap.size w0 w' ∧ Kept w w' (fun k_ => P0_ k_) := by
 have hu29 := Try.underlying29
 have HO0 := Aside0.mk (show Kd.R k29 29 w w0.heap.size (fun k_ => (P0_ k_ ∨ w.heap.size ≤ k_)) u9000_ l0 from Kd.R_mono ho0 (fun k_ hk => (.inl hk)))
 have HK := Aside0.mk (Kept.refl w (fun k_ => P0_ k_))
 have HW0 := Aside0.mk hB.size
 have HB := Aside0.mk hB
 clear hB
 have H : (slices_swapRangeCmpFunc_api_Intent_at_outbox_Latest_1.l0 k l0 a1 a2 a3 0) = some r := h
 clear h
 have H' := Aside0.mk H
 clear H
 go_enter Try.func79, Try.ntmps79
 go_wp2
 go_loopg [10] k (fun kq v10 w' => ∃ (x0_1 : List (S29)) (x10_1 : Int), v10 = .int .i64 x10_1 ∧ Aside0 (slices_swapRangeCmpFunc_api_Intent_at_outbox_Latest_1.l0 kq x0_1 a1 a2 a3 x10_1 = some r) ∧ Aside0 (kq ≤ k) ∧ Aside0 (Kd.R k29 29 w' w0.heap.size (fun k_ => (P0_ k_ ∨ w.heap.size ≤ k_)) u9000_ x0_1) ∧ Aside0 (Kept w w' (fun k_ => P0_ k_)) ∧ Aside0 (Below w0.heap.size w0 w'))
 case atStart => exact ⟨(l0), (0), (by first | rfl | (simp; done) | (simp [*]; done) | (simp [ne_nil_bytes]; done) | (simp [eq_nil_bytes]; done)), H', ⟨Nat.le_refl _⟩, ⟨by exact rL HO0.out⟩, ⟨by repeat (first | (with_reducible first | exact HK.out | apply Kept.alloc | apply Kept.drewN | apply Kept.drew) | exact HK.out)⟩, ⟨hL HB.out⟩⟩
 clear H'
 try clear c1
 try clear p2
 obtain ⟨x0_1, x10_1, rfl, HA, HK1, HO_0, HK, HB⟩ := hrel
 rcases gk with _ | k1
 ·exact absurd HA.out (by simp [slices_swapRangeCmpFunc_api_Intent_at_outbox_Latest_1.l0])
 have H := HA.out
 clear HA
 simp only [slices_swapRangeCmpFunc_api_Intent_at_outbox_Latest_1.l0] at H
 by_cases c6 : x10_1 < a3
 rotate_left
 ·rw [if_neg c6] at H
  have c6b0 : decide (x10_1 < a3) = false := decide_eq_false c6
  clear c6
  obtain rfl := Option.some.inj H
  simp only [Option.some.injEq, Prod.mk.injEq] at H
  obtain ⟨rfl⟩ := H
  go_wp2
  first | go_end0 | ((try simp only [Exit.inBlock, Exit.then]); refine bodyPost_ret (results_none rfl _ _ _) rfl ?_)
  exact ⟨by first | rfl | (simp [errW_none, errW_some] <;> rfl) | (simp [*, errW_none, errW_some] <;> rfl), by exact rL HO_0.out, hL HB.out, by repeat (first | (with_reducible first | exact HK.out | apply Kept.alloc | apply Kept.drewN | apply Kept.drew) | exact HK.out)⟩
 rw [if_pos c6] at H
 have c6b0 : decide (x10_1 < a3) = true := decide_eq_true c6
 clear c6
 obtain ⟨ji7, hji7⟩ : ∃ j_ : Int, (wrap64 (a2 + x10_1)) = j_ := ⟨_, rfl⟩
 replace H : (if 0 ≤ (ji7) then (if (ji7) < (x0_1.length : Int) then (if 0 ≤ (wrap64 (a1 + x10_1)) then (if (wrap64 (a1 + x10_1)) < (x0_1.length : Int) then (if ((wrap64 (a1 + x10_1)) : Int).toNat = ((ji7) : Int).toNat then none else (slices_swapRangeCmpFunc_api_Intent_at_outbox_Latest_1.l0 k1 ((x0_1.set ((wrap64 (a1 + x10_1)) : Int).toNat (⟨(rd_T29 x0_1 (ji7)).f0, (rd_T29 x0_1 (ji7)).f1, (rd_T29 x0_1 (ji7)).f2⟩ : S29)).set ((ji7) : Int).toNat (⟨(rd_T29 x0_1 (wrap64 (a1 + x10_1))).f0, (rd_T29 x0_1 (wrap64 (a1 + x10_1))).f1, (rd_T29 x0_1 (wrap64 (a1 + x10_1))).f2⟩ : S29)) a1 a2 a3 (wrap64 (x10_1 + 1)))) else (none)) else (none)) else (none)) else (none)) = some r := by first | (rw [hji7] at H; exact H) | (simp only [hji7] at H ⊢; exact H)
 have hji7w : (IntKind.i64.wrap (a2 + x10_1)) = ji7 := (i64_w _).trans hji7
 by_cases c8 : 0 ≤ (ji7)
 rotate_left
 ·rw [if_neg c8] at H
  exact absurd H (by simp)
 rw [if_pos c8] at H
 have c8b0 : decide (0 ≤ (ji7)) = true := decide_eq_true c8
 clear c8
 by_cases c9 : (ji7) < (x0_1.length : Int)
 rotate_left
 ·rw [if_neg c9] at H
  exact absurd H (by simp)
 rw [if_pos c9] at H
 have c9b0 : decide ((ji7) < (x0_1.length : Int)) = true := decide_eq_true c9
 clear c9
 obtain ⟨ji10, hji10⟩ : ∃ j_ : Int, (wrap64 (a1 + x10_1)) = j_ := ⟨_, rfl⟩
 replace H : (if 0 ≤ (ji10) then (if (ji10) < (x0_1.length : Int) then (if ((ji10) : Int).toNat = ((ji7) : Int).toNat then none else (slices_swapRangeCmpFunc_api_Intent_at_outbox_Latest_1.l0 k1 ((x0_1.set ((ji10) : Int).toNat (⟨(rd_T29 x0_1 (ji7)).f0, (rd_T29 x0_1 (ji7)).f1, (rd_T29 x0_1 (ji7)).f2⟩ : S29)).set ((ji7) : Int).toNat (⟨(rd_T29 x0_1 (ji10)).f0, (rd_T29 x0_1 (ji10)).f1, (rd_T29 x0_1 (ji10)).f2⟩ : S29)) a1 a2 a3 (wrap64 (x10_1 + 1)))) else (none)) else (none)) = some r := by first | (rw [hji10] at H; exact H) | (simp only [hji10] at H ⊢; exact H)
 have hji10w : (IntKind.i64.wrap (a1 + x10_1)) = ji10 := (i64_w _).trans hji10
 by_cases c11 : 0 ≤ (ji10)
 rotate_left
 ·rw [if_neg c11] at H
  exact absurd H (by simp)
 rw [if_pos c11] at H
 have c11b0 : decide (0 ≤ (ji10)) = true := decide_eq_true c11
 clear c11
 by_cases c12 : (ji10) < (x0_1.length : Int)
 rotate_left
 ·rw [if_neg c12] at H
  exact absurd H (by simp)
 rw [if_pos c12] at H
 have c12b0 : decide ((ji10) < (x0_1.length : Int)) = true := decide_eq_true c12
 clear c12
 by_cases hnn_ : ((ji10) : Int).toNat = ((ji7) : Int).toNat
 ·rw [if_pos hnn_] at H
  exact absurd H (by simp)
 rw [if_neg hnn_] at H
 obtain ⟨y138, hy138⟩ : ∃ y_ : List (S29), y_ = (x0_1.set ((ji10) : Int).toNat (⟨(rd_T29 x0_1 (ji7)).f0, (rd_T29 x0_1 (ji7)).f1, (rd_T29 x0_1 (ji7)).f2⟩ : S29)) := ⟨_, rfl⟩
 replace H : (slices_swapRangeCmpFunc_api_Intent_at_outbox_Latest_1.l0 k1 (y138.set ((ji7) : Int).toNat (⟨(rd_T29 x0_1 (ji10)).f0, (rd_T29 x0_1 (ji10)).f1, (rd_T29 x0_1 (ji10)).f2⟩ : S29)) a1 a2 a3 (wrap64 (x10_1 + 1))) = some r := by first | (rw [hy138]; with_reducible exact H) | (have H2_ := (Option.bind_some _ _).symm.trans H; rw [hy138]; with_reducible exact H2_) | (have H2_ := (Option.bind_some _ _).symm.trans H; with_reducible exact H2_) | with_reducible exact H | (rw [hy138]; exact H) | exact H
 have Ny138 := Aside0.mk hy138
 clear hy138
 obtain ⟨y139, hy139⟩ : ∃ y_ : List (S29), y_ = (y138.set ((ji7) : Int).toNat (⟨(rd_T29 x0_1 (ji10)).f0, (rd_T29 x0_1 (ji10)).f1, (rd_T29 x0_1 (ji10)).f2⟩ : S29)) := ⟨_, rfl⟩
 replace H : (slices_swapRangeCmpFunc_api_Intent_at_outbox_Latest_1.l0 k1 y139 a1 a2 a3 (wrap64 (x10_1 + 1))) = some r := by first | (rw [hy139]; with_reducible exact H) | (have H2_ := (Option.bind_some _ _).symm.trans H; rw [hy139]; with_reducible exact H2_) | (have H2_ := (Option.bind_some _ _).symm.trans H; with_reducible exact H2_) | with_reducible exact H | (rw [hy139]; exact H) | exact H
 have Ny139 := Aside0.mk hy139
 clear hy139
 have H' := Aside0.mk H
 clear H
 try go_wp2
 have n0_ := Aside0.mk (Kd.R_drew HO_0.out)
 have n1_ := Aside0.mk (Kept.drew HK.out)
 have n2_ := Aside0.mk (below_drew1 HB.out)
 clear HO_0
 clear HK
 clear HB
 have HO_0 := n0_
 have HK := n1_
 have HB := n2_
 clear n0_ n1_ n2_
 obtain ⟨Ao16, co16, eo16⟩ := Kd.R_slice HO_0.out
 (first | subst eo16 | (injection eo16 with f1_ f2_ f3_; have f4_ := f1_.symm; have f5_ := f3_.symm; clear f1_ f2_ f3_; subst f4_; subst f5_))
 have p136 : 0 ≤ ((ji7) : Int) := of_decide_eq_true (by first | (with_reducible assumption) | assumption)
 have q136 : (ji7) < (x0_1.length : Int) := of_decide_eq_true (by first | (with_reducible assumption) | assumption)
 obtain ⟨ad136, e136, hx136_0, hx136_1, hx136_2⟩ := at_T29 (Kd.R_reads' HO_0.out).2.2 (ji7) p136 q136
 cases e136
 replace p136 := eq_true p136
 replace q136 := eq_true q136
 have p137 : 0 ≤ ((ji10) : Int) := of_decide_eq_true (by first | (with_reducible assumption) | assumption)
 have q137 : (ji10) < (x0_1.length : Int) := of_decide_eq_true (by first | (with_reducible assumption) | assumption)
 obtain ⟨ad137, e137, hx137_0, hx137_1, hx137_2⟩ := at_T29 (Kd.R_reads' HO_0.out).2.2 (ji10) p137 q137
 obtain rfl : ad136 = ad137 := (by injection e137)
 replace p137 := eq_true p137
 replace q137 := eq_true q137
 have p13 : 0 ≤ ((ji10) : Int) := of_decide_eq_true (by first | (with_reducible assumption) | assumption)
 have q13 : ((ji10) : Int) < ((x0_1.length : Int) : Int) := of_decide_eq_true (by first | (with_reducible assumption) | assumption)
 obtain ⟨go13, co13, eo13, gb13, gl13, cl13, HG13⟩ := Kd.R_form HO_0.out (by omega)
 (first | cases eo13 | (injection eo13 with ea_ en_ ec_; (first | subst ea_ | (injection ea_ with ea_; subst ea_)); subst ec_; clear en_))
 have GB13 := Aside0.mk gb13
 have GG13 := Aside0.mk HG13
 clear gb13 gl13 HG13
 have HMgo13 := Aside0.mk (show (P0_ go13 ∨ w.heap.size ≤ go13) from (HO_0.out.1 _ rfl))
 (first | simp only [add_plain] at hx136_0 | skip)
 (first | simp only [add_plain] at hx136_1 | skip)
 (first | simp only [add_plain] at hx136_2 | skip)
 (first | simp only [add_plain] at hx137_0 | skip)
 (first | simp only [add_plain] at hx137_1 | skip)
 (first | simp only [add_plain] at hx137_2 | skip)
 obtain ⟨ce13, hcl13, hM13, hcc13, hfr13⟩ := Kd.R_elem HO_0.out z29 ((ji10) : Int) p13 q13
 obtain rfl := k29_openM hM13
 have hx13_0 : World.cell? _ ⟨go13, ((ji10) : Int).toNat * 3, none⟩ = some (.string ((rd_T29 x0_1 (ji10)).f0)) := hcc13 0 _ rfl
 have hx13_1 : World.cell? _ ⟨go13, ((ji10) : Int).toNat * 3 + 1, none⟩ = some (.int .i64 ((rd_T29 x0_1 (ji10)).f1)) := hcc13 1 _ rfl
 have hx13_2 : World.cell? _ ⟨go13, ((ji10) : Int).toNat * 3 + 2, none⟩ = some (.bool ((rd_T29 x0_1 (ji10)).f2)) := hcc13 2 _ rfl
 have hf13_0 : World.frozen? _ ⟨go13, ((ji10) : Int).toNat * 3, none⟩ = false := hfr13 0
 have hf13_1 : World.frozen? _ ⟨go13, ((ji10) : Int).toNat * 3 + 1, none⟩ = false := hfr13 1
 have hf13_2 : World.frozen? _ ⟨go13, ((ji10) : Int).toNat * 3 + 2, none⟩ = false := hfr13 2
 clear hcl13 hcc13 hfr13 hM13
 replace p13 := eq_true p13
 replace q13 := eq_true q13
 obtain ⟨ce17, hcl17, hM17, hcc17, hfr17⟩ := Kd.R_elem HO_0.out z29 ((ji10) : Int) (of_decide_eq_true (by first | (with_reducible assumption) | assumption)) (by have h_ : ((ji10) : Int) < ((x0_1.length : Int) : Int) := of_decide_eq_true (by first | (with_reducible assumption) | assumption); first | exact h_ | (have e_ := (Kd.R_reads' HO_0.out).1; omega) | simpa using h_)
 obtain rfl := k29_openM hM17
 have HP17 := (Kd.R_seg HO_0.out ((ji10) : Int) (of_decide_eq_true (by first | (with_reducible assumption) | assumption)) (by have h_ : ((ji10) : Int) < ((x0_1.length : Int) : Int) := of_decide_eq_true (by first | (with_reducible assumption) | assumption); first | exact h_ | (have e_ := (Kd.R_reads' HO_0.out).1; omega) | simpa using h_) (seg := [.string ((rd_T29 x0_1 (ji7)).f0), .int .i64 ((rd_T29 x0_1 (ji7)).f1), .bool ((rd_T29 x0_1 (ji7)).f2)]) (j := 0) hcl17 hcc17 (show 3 ≤ 3 from by decide) (x' := (⟨(rd_T29 x0_1 (ji7)).f0, (rd_T29 x0_1 (ji7)).f1, (rd_T29 x0_1 (ji7)).f2⟩ : S29)) (k29_mkM _ _ _ (⟨(rd_T29 x0_1 (ji7)).f0, (rd_T29 x0_1 (ji7)).f1, (rd_T29 x0_1 (ji7)).f2⟩ : S29) ) (fun _ hk => hk)).1
 rw [← Ny138.out] at HP17
 have HQ17 := Aside0.mk HP17
 clear hcl17 hcc17 hfr17 hM17 HP17
 have p14 : 0 ≤ ((ji7) : Int) := of_decide_eq_true (by first | (with_reducible assumption) | assumption)
 have q14 : ((ji7) : Int) < ((x0_1.length : Int) : Int) := of_decide_eq_true (by first | (with_reducible assumption) | assumption)
 obtain ⟨ce14, hcl14, hM14, hcc14, hfr14⟩ := Kd.R_elem HQ17.out z29 ((ji7) : Int) p14 q14
 obtain rfl := k29_openM hM14
 have hx14_0 : World.cell? _ ⟨go13, ((ji7) : Int).toNat * 3, none⟩ = some (.string ((rd_T29 y138 (ji7)).f0)) := hcc14 0 _ rfl
 have hx14_1 : World.cell? _ ⟨go13, ((ji7) : Int).toNat * 3 + 1, none⟩ = some (.int .i64 ((rd_T29 y138 (ji7)).f1)) := hcc14 1 _ rfl
 have hx14_2 : World.cell? _ ⟨go13, ((ji7) : Int).toNat * 3 + 2, none⟩ = some (.bool ((rd_T29 y138 (ji7)).f2)) := hcc14 2 _ rfl
 have hf14_0 : World.frozen? _ ⟨go13, ((ji7) : Int).toNat * 3, none⟩ = false := hfr14 0
 have hf14_1 : World.frozen? _ ⟨go13, ((ji7) : Int).toNat * 3 + 1, none⟩ = false := hfr14 1
 have hf14_2 : World.frozen? _ ⟨go13, ((ji7) : Int).toNat * 3 + 2, none⟩ = false := hfr14 2
 clear hcl14 hcc14 hfr14 hM14
 replace p14 := eq_true p14
 replace q14 := eq_true q14
 obtain ⟨ce18, hcl18, hM18, hcc18, hfr18⟩ := Kd.R_elem HQ17.out z29 ((ji7) : Int) (of_decide_eq_true (by first | (with_reducible assumption) | assumption)) (by have h_ : ((ji7) : Int) < ((x0_1.length : Int) : Int) := of_decide_eq_true (by first | (with_reducible assumption) | assumption); first | exact h_ | (have e_ := (Kd.R_reads' HO_0.out).1; omega) | simpa using h_)
 obtain rfl := k29_openM hM18
 have HP18 := (Kd.R_seg HQ17.out ((ji7) : Int) (of_decide_eq_true (by first | (with_reducible assumption) | assumption)) (by have h_ : ((ji7) : Int) < ((x0_1.length : Int) : Int) := of_decide_eq_true (by first | (with_reducible assumption) | assumption); first | exact h_ | (have e_ := (Kd.R_reads' HO_0.out).1; omega) | simpa using h_) (seg := [.string ((rd_T29 x0_1 (ji10)).f0), .int .i64 ((rd_T29 x0_1 (ji10)).f1), .bool ((rd_T29 x0_1 (ji10)).f2)]) (j := 0) hcl18 hcc18 (show 3 ≤ 3 from by decide) (x' := (⟨(rd_T29 x0_1 (ji10)).f0, (rd_T29 x0_1 (ji10)).f1, (rd_T29 x0_1 (ji10)).f2⟩ : S29)) (k29_mkM _ _ _ (⟨(rd_T29 x0_1 (ji10)).f0, (rd_T29 x0_1 (ji10)).f1, (rd_T29 x0_1 (ji10)).f2⟩ : S29) ) (fun _ hk => hk)).1
 rw [← Ny139.out] at HP18
 have HQ18 := Aside0.mk HP18
 clear hcl18 hcc18 hfr18 hM18 HP18
 (try have hnnA_ : ¬ ((ji7).toNat = (ji10).toNat) := (by first | exact hnn_ | exact (fun e_ => hnn_ e_.symm) | exact (by have h_ : ji10 < ji7 := of_decide_eq_true (by first | (with_reducible assumption) | assumption); have h0_ : 0 ≤ ji10 := (by first | assumption | (exact of_eq_true (by assumption)) | (exact of_decide_eq_true (by assumption))); omega) | exact (fun e_ => absurd e_.symm (by have h_ : ji7 < ji10 := of_decide_eq_true (by first | (with_reducible assumption) | assumption); have h0_ : 0 ≤ ji7 := (by first | assumption | (exact of_eq_true (by assumption)) | (exact of_decide_eq_true (by assumption))); omega))))
 (try simp only [World.frozen?_setCells] at hf13_0)
 (try simp only [World.frozen?_setCells] at hf13_1)
 (try simp only [World.frozen?_setCells] at hf13_2)
 (try simp only [World.frozen?_setCells] at hf14_0)
 (try simp only [World.frozen?_setCells] at hf14_1)
 (try simp only [World.frozen?_setCells] at hf14_2)
 (try have hnnB_ : ¬ ((ji10).toNat = (ji7).toNat) := fun e_ => hnnA_ e_.symm)
 refine start_ (n := 24) (S := fun w' => w'.cell? ⟨go13, (((ji7)).toNat * 3), none⟩ = some (.string ((rd_T29 x0_1 (ji7)).f0)) ∧ w'.cell? ⟨go13, (((ji7)).toNat * 3) + 1, none⟩ = some (.int .i64 ((rd_T29 x0_1 (ji7)).f1)) ∧ w'.cell? ⟨go13, (((ji7)).toNat * 3) + 2, none⟩ = some (.bool ((rd_T29 x0_1 (ji7)).f2)) ∧ w'.cell? ⟨go13, (((ji10)).toNat * 3), none⟩ = some (.string ((rd_T29 x0_1 (ji10)).f0)) ∧ w'.cell? ⟨go13, (((ji10)).toNat * 3) + 1, none⟩ = some (.int .i64 ((rd_T29 x0_1 (ji10)).f1)) ∧ w'.cell? ⟨go13, (((ji10)).toNat * 3) + 2, none⟩ = some (.bool ((rd_T29 x0_1 (ji10)).f2))) (ds := [21, 23]) #[false, false, false, false, false, false, false, false, false, false, false, false, false, false, false, false, false, false, false, false, false, false, false, false] (by kernel_rfl) rfl rfl ⟨hx136_0, hx136_1, hx136_2, hx137_0, hx137_1, hx137_2⟩ (fun hHeld => ?_); refine with_tabW slices_swapRangeCmpFunc_api_Intent_at_outbox_Latest_1.tab3 slices_swapRangeCmpFunc_api_Intent_at_outbox_Latest_1.bits3 (fun HT_ HW_ => ?_)
 generalize wr.drew = w15 at HO_0 HK HB GG13 HQ17 HQ18 hf13_0 hf13_1 hf13_2 hf14_0 hf14_1 hf14_2 hx136_0 hx136_1 hx136_2 hx137_0 hx137_1 hx137_2 hx13_0 hx13_1 hx13_2 hx14_0 hx14_1 hx14_2 hHeld ⊢
 refine pure_ (i := 0) (N := some 16) (v := ?_) (a' := ?_) #[true, false, false, false, false, false, false, false, false, false, false, false, false, false, false, false, false, false, false, false, false, false, false, false] rfl rfl (any_of HT_.out (by kernel_rfl)) (fun _ _ _ h => h) (Or.inl ⟨by rfl, ?_⟩) ?_ ?_
 rotate_left
 ·intro w'
  go_simp
  with_reducible rfl
 rotate_left
 ·simp only [Act.put, sT, sZ, sS, i64_w, i32_w]
  rfl
 refine pure_ (i := 1) (N := some 17) (v := ?_) (a' := ?_) #[true, true, false, false, false, false, false, false, false, false, false, false, false, false, false, false, false, false, false, false, false, false, false, false] rfl rfl (any_of HT_.out (by kernel_rfl)) (fun _ _ _ h => h) (Or.inl ⟨by rfl, ?_⟩) ?_ ?_
 rotate_left
 ·intro w'
  go_simp
  with_reducible rfl
 rotate_left
 ·simp only [Act.put, sT, sZ, sS, i64_w, i32_w]
  rfl
 refine pure_ (i := 2) (N := some 18) (v := ?_) (a' := ?_) #[true, true, true, false, false, false, false, false, false, false, false, false, false, false, false, false, false, false, false, false, false, false, false, false] rfl rfl (any_of HT_.out (by kernel_rfl)) (fun _ _ _ h => h) (Or.inl ⟨by rfl, ?_⟩) ?_ ?_
 rotate_left
 ·intro w'
  go_simp
  with_reducible rfl
 rotate_left
 ·simp only [Act.put, sT, sZ, sS, i64_w, i32_w]
  rfl
 refine pure_ (i := 3) (N := some 19) (v := ?_) (a' := ?_) #[true, true, true, true, false, false, false, false, false, false, false, false, false, false, false, false, false, false, false, false, false, false, false, false] rfl rfl (any_of HT_.out (by kernel_rfl)) (fun _ _ _ h => h) (Or.inl ⟨by rfl, ?_⟩) ?_ ?_
 rotate_left
 ·intro w'
  go_simp
  with_reducible rfl
 rotate_left
 ·simp only [Act.put, sT, sZ, sS, i64_w, i32_w]
  rfl
 refine pure_ (i := 4) (N := some 20) (v := ?_) (a' := ?_) #[true, true, true, true, true, false, false, false, false, false, false, false, false, false, false, false, false, false, false, false, false, false, false, false] rfl rfl (any_of HT_.out (by kernel_rfl)) (fun _ _ _ h => h) (Or.inl ⟨by rfl, ?_⟩) ?_ ?_
 rotate_left
 ·intro w'
  go_simp
  with_reducible rfl
 rotate_left
 ·simp only [Act.put, sT, sZ, sS, i64_w, i32_w]
  rfl
 refine pure_ (i := 5) (N := some 21) (v := ?_) (a' := ?_) #[true, true, true, true, true, true, false, false, false, false, false, false, false, false, false, false, false, false, false, false, false, false, false, false] rfl rfl (any_of HT_.out (by kernel_rfl)) (fun _ _ _ h => h) (Or.inl ⟨by rfl, ?_⟩) ?_ ?_
 rotate_left
 ·intro w'
  go_simp
  with_reducible rfl
 rotate_left
 ·simp only [Act.put, sT, sZ, sS, i64_w, i32_w]
  rfl
 refine pure_ (i := 6) (N := some 22) (v := ?_) (a' := ?_) #[true, true, true, true, true, true, true, false, false, false, false, false, false, false, false, false, false, false, false, false, false, false, false, false] rfl rfl (any_of HT_.out (by kernel_rfl)) (fun _ _ _ h => h) (Or.inl ⟨by rfl, ?_⟩) ?_ ?_
 rotate_left
 ·intro w'
  go_simp
  with_reducible rfl
 rotate_left
 ·simp only [Act.put, sT, sZ, sS, i64_w, i32_w]
  rfl
 refine pure_ (i := 7) (N := some 23) (v := ?_) (a' := ?_) #[true, true, true, true, true, true, true, true, false, false, false, false, false, false, false, false, false, false, false, false, false, false, false, false] rfl rfl (any_of HT_.out (by kernel_rfl)) (fun _ _ _ h => h) (Or.inl ⟨by rfl, ?_⟩) ?_ ?_
 rotate_left
 ·intro w'
  go_simp
  with_reducible rfl
 rotate_left
 ·simp only [Act.put, sT, sZ, sS, i64_w, i32_w]
  rfl
 refine pure_ (i := 8) (N := some 24) (v := ?_) (a' := ?_) #[true, true, true, true, true, true, true, true, true, false, false, false, false, false, false, false, false, false, false, false, false, false, false, false] rfl rfl (any_of HT_.out (by kernel_rfl)) (fun _ _ _ h => h) (Or.inl ⟨by rfl, ?_⟩) ?_ ?_
 rotate_left
 ·intro w'
  go_simp
  with_reducible rfl
 rotate_left
 ·simp only [Act.put, sT, sZ, sS, i64_w, i32_w]
  rfl
 refine pure_ (i := 9) (N := some 25) (v := ?_) (a' := ?_) #[true, true, true, true, true, true, true, true, true, true, false, false, false, false, false, false, false, false, false, false, false, false, false, false] rfl rfl (any_of HT_.out (by kernel_rfl)) (fun _ _ _ h => h) (Or.inl ⟨by rfl, ?_⟩) ?_ ?_
 rotate_left
 ·intro w'
  go_simp
  with_reducible rfl
 rotate_left
 ·simp only [Act.put, sT, sZ, sS, i64_w, i32_w]
  rfl
 refine pure_ (i := 10) (N := some 26) (v := ?_) (a' := ?_) #[true, true, true, true, true, true, true, true, true, true, true, false, false, false, false, false, false, false, false, false, false, false, false, false] rfl rfl (any_of HT_.out (by kernel_rfl)) (fun _ _ _ h => h) (Or.inl ⟨by rfl, ?_⟩) ?_ ?_
 rotate_left
 ·intro w'
  go_simp
  with_reducible rfl
 rotate_left
 ·simp only [Act.put, sT, sZ, sS, i64_w, i32_w]
  rfl
 refine pure_ (i := 11) (N := some 27) (v := ?_) (a' := ?_) #[true, true, true, true, true, true, true, true, true, true, true, true, false, false, false, false, false, false, false, false, false, false, false, false] rfl rfl (any_of HT_.out (by kernel_rfl)) (fun _ _ _ h => h) (Or.inl ⟨by rfl, ?_⟩) ?_ ?_
 rotate_left
 ·intro w'
  go_simp
  with_reducible rfl
 rotate_left
 ·simp only [Act.put, sT, sZ, sS, i64_w, i32_w]
  rfl
 refine pure_ (i := 12) (N := some 28) (v := ?_) (a' := ?_) #[true, true, true, true, true, true, true, true, true, true, true, true, true, false, false, false, false, false, false, false, false, false, false, false] rfl rfl (any_of HT_.out (by kernel_rfl)) (fun _ _ _ h => h) (Or.inl ⟨by rfl, ?_⟩) ?_ ?_
 rotate_left
 ·intro w'
  go_simp
  with_reducible rfl
 rotate_left
 ·simp only [Act.put, sT, sZ, sS, i64_w, i32_w]
  rfl
 refine pure_ (i := 14) (N := some 30) (v := ?_) (a' := ?_) #[true, true, true, true, true, true, true, true, true, true, true, true, true, false, true, false, false, false, false, false, false, false, false, false] rfl rfl (any_of HT_.out (by kernel_rfl)) (fun _ _ _ h => h) (Or.inl ⟨by rfl, ?_⟩) ?_ ?_
 rotate_left
 ·intro w'
  go_simp
  with_reducible rfl
 rotate_left
 ·simp only [Act.put, sT, sZ, sS, i64_w, i32_w]
  rfl
 refine pure_ (i := 15) (N := some 31) (v := ?_) (a' := ?_) #[true, true, true, true, true, true, true, true, true, true, true, true, true, false, true, true, false, false, false, false, false, false, false, false] rfl rfl (any_of HT_.out (by kernel_rfl)) (fun _ _ _ h => h) (Or.inl ⟨by rfl, ?_⟩) ?_ ?_
 rotate_left
 ·intro w'
  go_simp
  with_reducible rfl
 rotate_left
 ·simp only [Act.put, sT, sZ, sS, i64_w, i32_w]
  rfl
 refine pure_ (i := 16) (N := some 32) (v := ?_) (a' := ?_) #[true, true, true, true, true, true, true, true, true, true, true, true, true, false, true, true, true, false, false, false, false, false, false, false] rfl rfl (any_of HT_.out (by kernel_rfl)) (fun _ _ _ h => h) (Or.inl ⟨by rfl, ?_⟩) ?_ ?_
 rotate_left
 ·intro w'
  go_simp
  with_reducible rfl
 rotate_left
 ·simp only [Act.put, sT, sZ, sS, i64_w, i32_w]
  rfl
 refine pure_ (i := 17) (N := some 33) (v := ?_) (a' := ?_) #[true, true, true, true, true, true, true, true, true, true, true, true, true, false, true, true, true, true, false, false, false, false, false, false] rfl rfl (any_of HT_.out (by kernel_rfl)) (fun _ _ _ h => h) (Or.inl ⟨by rfl, ?_⟩) ?_ ?_
 rotate_left
 ·intro w'
  go_simp
  with_reducible rfl
 rotate_left
 ·simp only [Act.put, sT, sZ, sS, i64_w, i32_w]
  rfl
 refine pure_ (i := 18) (N := some 34) (v := ?_) (a' := ?_) #[true, true, true, true, true, true, true, true, true, true, true, true, true, false, true, true, true, true, true, false, false, false, false, false] rfl rfl (any_of HT_.out (by kernel_rfl)) (fun _ _ _ h => h) (Or.inl ⟨by rfl, ?_⟩) ?_ ?_
 rotate_left
 ·intro w'
  go_simp
  with_reducible rfl
 rotate_left
 ·simp only [Act.put, sT, sZ, sS, i64_w, i32_w]
  rfl
 refine take_ (i := 13) (N := some 29) (v := ?_) (a' := ?_) #[true, true, true, true, true, true, true, true, true, true, true, true, true, true, true, true, true, true, true, false, false, false, false, false] rfl rfl (take_ofW HT_.out HW_.out (by kernel_rfl)) (fun _ _ _ h => h) (Or.inl ⟨by rfl, ?_⟩) hHeld ?_ ?_
 rotate_left
 ·rintro w' ⟨s0, s1, s2, s3, s4, s5⟩
  go_simp
  with_reducible rfl
 rotate_left
 ·simp only [Act.put, sT, sZ, sS, i64_w, i32_w]
  rfl
 refine take_ (i := 19) (N := some 35) (v := ?_) (a' := ?_) #[true, true, true, true, true, true, true, true, true, true, true, true, true, true, true, true, true, true, true, true, false, false, false, false] rfl rfl (take_ofW HT_.out HW_.out (by kernel_rfl)) (fun _ _ _ h => h) (Or.inl ⟨by rfl, ?_⟩) hHeld ?_ ?_
 rotate_left
 ·rintro w' ⟨s0, s1, s2, s3, s4, s5⟩
  go_simp
  with_reducible rfl
 rotate_left
 ·simp only [Act.put, sT, sZ, sS, i64_w, i32_w]
  rfl
 refine pure_ (i := 20) (N := some 36) (v := ?_) (a' := ?_) #[true, true, true, true, true, true, true, true, true, true, true, true, true, true, true, true, true, true, true, true, true, false, false, false] rfl rfl (any_of HT_.out (by kernel_rfl)) (fun _ _ _ h => h) (Or.inl ⟨by rfl, ?_⟩) ?_ ?_
 rotate_left
 ·intro w'
  go_simp
  with_reducible rfl
 rotate_left
 ·simp only [Act.put, sT, sZ, sS, i64_w, i32_w]
  rfl
 refine last_ (i := 21) (N := none) #[true, true, true, true, true, true, true, true, true, true, true, true, true, true, true, true, true, true, true, true, true, true, false, false] rfl rfl (one_of HT_.out (by kernel_rfl)) (by decide) (fun K hK => ?_)
 refine skip_ (w1 := ?_) (by rfl) rfl ?_ ?_
 rotate_left
 ·go_simp
  rfl
 refine hK.out _ _ ?_
 clear hK K
 refine pure_ (i := 22) (N := some 37) (v := ?_) (a' := ?_) #[true, true, true, true, true, true, true, true, true, true, true, true, true, true, true, true, true, true, true, true, true, true, true, false] rfl rfl (any_of HT_.out (by kernel_rfl)) (fun _ _ _ h => h) (Or.inl ⟨by rfl, ?_⟩) ?_ ?_
 rotate_left
 ·intro w'
  go_simp
  with_reducible rfl
 rotate_left
 ·simp only [Act.put, sT, sZ, sS, i64_w, i32_w]
  rfl
 refine last_ (i := 23) (N := none) #[true, true, true, true, true, true, true, true, true, true, true, true, true, true, true, true, true, true, true, true, true, true, true, true] rfl rfl (one_of HT_.out (by kernel_rfl)) (by decide) (fun K hK => ?_)
 refine skip_ (w1 := ?_) (by rfl) rfl ?_ ?_
 rotate_left
 ·go_simp
  rfl
 refine hK.out _ _ ?_
 clear hK K
 refine done_ (done_of HT_.out (by kernel_rfl)) ?_
 try go_wp2
 go_roundg k1
 case measure => have := HK1.out; omega
 case rel => exact ⟨(y139), (wrap64 (x10_1 + 1)), (by first | rfl | (simp; done) | (simp [*]; done) | (simp [ne_nil_bytes]; done) | (simp [eq_nil_bytes]; done)), H', ⟨by have := HK1.out; omega⟩, ⟨by exact (by first | exact rL HQ18.out | exact HQ18.out)⟩, ⟨by repeat (first | (with_reducible first | exact HK.out | apply Kept.alloc | apply Kept.drewN | apply Kept.drew | refine Kept.setCell ?_ HMgo13.out _ | refine Kept.setCell ?_ HMgo13.out _ | refine Kept.setCell ?_ HMgo13.out _ | refine Kept.setCell ?_ HMgo13.out _ | refine Kept.setCell ?_ HMgo13.out _ | refine Kept.setCell ?_ HMgo13.out _) | exact HK.out)⟩, ⟨by repeat (first | (with_reducible first | exact HB.out | apply below_alloc | apply pw_below_drewN | apply below_drew1 | refine below_set ?_ GB13.out | refine below_set ?_ GB13.out | refine below_set ?_ GB13.out | refine below_set ?_ GB13.out | refine below_set ?_ GB13.out | refine below_set ?_ GB13.out) | exact HB.out)⟩⟩

end Go.Proofs.Ytdaikljbljcagaa.PAll
