-- Written by a program of this session for this claim (mp.py, over the kit's print); Lean checks it.
import Derived.Test.YtdaikljbljcagaaPAllx0
namespace Go.Proofs.Ytdaikljbljcagaa.PAll
open Go.RowKit Go.Proofs.YtdaikljbljcagaaW.PrintWords Go.Proofs.YtdaikljbljcagaaW.PrintLast Go.Proofs.YtdaikljbljcagaaW.PrintMore Go.Proofs.Ytdaikljbljcagaa.Fv Go.Proofs.Ytdaikljbljcagaa.Hl
attribute [local go_sem] max2_int min2_int max_two min_two max_three min_three max_four min_four str_gtr str_leq str_geq cell_set2   -- for this text's walks alone
set_option linter.unusedVariables false
set_option linter.unusedSimpArgs false

/-! ### slices_Clone_api_Intent_api_Intent: function 27 -/
def slices_Clone_api_Intent_api_Intent.f (l0 : List (S29)) : Option ((List (S29))) := (some (([] : List (S29)) : List (S29))).bind fun y106 => (if y106.length + l0.length < 4398046511104 then (some (y106 ++ l0)) else (none))
set_option maxHeartbeats 8000000 in
set_option maxRecDepth 100000 in
theorem slices_Clone_api_Intent_api_Intent.calls (A0 : Option Addr) (c0 : Nat) (l0 : List (S29)) (r : List (S29)) (w : World) (hr0 : Kd.C k29 w A0 l0.length l0) (hc0 : l0.length ≤ c0) (h : slices_Clone_api_Intent_api_Intent.f l0 = some r) :
  Calls Try.prog 27 #[.slice A0 l0.length c0] w fun e w' => ∃ v0_ : Value, e = .returned (v0_) ∧ Kd.R k29 29 w' w.heap.size (fun _ => True) v0_ r ∧ Below w.heap.size w w' := by
 rcases A0 with _ | ad0
 ·have hz : l0 = [] := by
   rcases Nat.eq_zero_or_pos l0.length with h0 | h0
   ·exact List.eq_nil_of_length_eq_zero h0
   ·obtain ⟨_, he, _⟩ := hr0.2.2 h0; cases he
  subst hz
  simp [slices_Clone_api_Intent_api_Intent.f] at h
  subst h
  clear hr0 hc0
  have hnil_ : ∀ w_ : World, (binOp .eql 22 (.slice none 0 c0) (.slice none 0 0)).run Try.prog w_ = .ok (.bool true) w_ := fun w_ => Lib.run_eql_slice_nil w_ 22 29 none 0 c0 0 0 Try.underlying22
  go_enter Try.func27, Try.ntmps27
  go_wp2
  go_ret
  exact ⟨_, rfl, Kd.R_nil _ _ _ _ _, Below.refl _ _⟩
 have hnil_ : ∀ w_ : World, (binOp .eql 22 (.slice (some ad0) l0.length c0) (.slice none 0 0)).run Try.prog w_ = .ok (.bool false) w_ := fun w_ => Lib.run_eql_slice_nil w_ 22 29 (some ad0) l0.length c0 0 0 Try.underlying22
 have HR0 := Aside0.mk hr0
 have HC0 := Aside0.mk hc0
 clear hr0 hc0
 have HB := Aside0.mk (Below.refl w.heap.size w)
 have H : ((some (([] : List (S29)) : List (S29))).bind fun y106 => (if y106.length + l0.length < 4398046511104 then (some (y106 ++ l0)) else (none))) = some r := h
 clear h
 obtain ⟨y106, hy106⟩ : ∃ y_ : List (S29), y_ = (([] : List (S29))) := ⟨_, rfl⟩
 replace H : (if y106.length + l0.length < 4398046511104 then (some (y106 ++ l0)) else (none)) = some r := by first | (rw [hy106]; with_reducible exact H) | (have H2_ := (Option.bind_some _ _).symm.trans H; rw [hy106]; with_reducible exact H2_) | (have H2_ := (Option.bind_some _ _).symm.trans H; with_reducible exact H2_) | with_reducible exact H | (rw [hy106]; exact H) | exact H
 have Ny106 := Aside0.mk hy106
 clear hy106
 by_cases c2 : y106.length + l0.length < 4398046511104
 rotate_left
 ·rw [if_neg c2] at H
  exact absurd H (by simp)
 rw [if_pos c2] at H
 have LMc2 := Aside0.mk c2
 clear c2
 obtain ⟨y109, hy109⟩ : ∃ y_ : List (S29), y_ = (y106 ++ l0) := ⟨_, rfl⟩
 replace H : (some y109) = some r := by first | (rw [hy109]; with_reducible exact H) | (have H2_ := (Option.bind_some _ _).symm.trans H; rw [hy109]; with_reducible exact H2_) | (have H2_ := (Option.bind_some _ _).symm.trans H; with_reducible exact H2_) | with_reducible exact H | (rw [hy109]; exact H) | exact H
 have Ny109 := Aside0.mk hy109
 clear hy109
 obtain rfl := Option.some.inj H
 simp only [Option.some.injEq, Prod.mk.injEq] at H
 obtain ⟨rfl⟩ := H
 go_enter Try.func27, Try.ntmps27
 go_wp2_with (first | ((with_reducible refine gate_dst (N := 5) rfl ?_); refine Kd.R_lit k29 _ 29 ?hg (N := 5) ?hd (xs := ([] : List (S29))) (inner := []) (ok := fun _ => True) (okp := fun _ => True) ?hr ?hp (fun _ hk => hk) trivial (Below.refl _ _) (Nat.le_refl _) (by simp) ?_; (case hd => rfl); (case hg => rfl); (case hr => first | (go_simp; done) | (go_simp; rfl)); (case hp => exact (Reps.none _ _)); intro v107 w3 ho4 hb hg_ hnew_; clear hg_ hnew_; (first | rw [← Ny106.out] at ho4 | (simp only [Int.reduceToNat] at ho4; rw [← Ny106.out] at ho4)); have n0_ := Aside0.mk (Kd.R_lower ho4 (below_size (hL HB.out))); have n1_ := Aside0.mk (below_step (hL HB.out) hb); clear HB; have HO108 := n0_; have HB := n1_; clear n0_ n1_; clear hb ho4) | ((with_reducible refine gate_builtin (b := .append) (xs := #[.tmp 5, .tmp 6]) rfl ?_); at_builtin; refine Kd.R_append_rows k29 (w0 := w) w.heap.size rfl (.tmp 5) (.tmp 6) 22 29 (.agg #[(.string ⟨#[]⟩), (.int .i64 0), (.bool false)]) 32 rfl Try.underlying22 info29 rfl (by decide) (by omega) v107 y106 l0 _ _ _ (fun _ => True) (fun _ => False) rfl rfl ?aO ?aR (fun _ _ h => h) (fun _ h => h.elim) ?aF ?aB ?aS ?aL ?_; (case aR => repeat (first | exact (Kd.C_below HR0.out HB.out) | exact (Kd.C_drewN (Kd.C_below HR0.out HB.out) _) | exact (Kd.C_drew (Kd.C_below HR0.out HB.out)) | (with_reducible refine Kd.C_alloc ?_ _) | (with_reducible refine Kd.C_drewN ?_ _) | (with_reducible refine Kd.C_drew ?_))); (case aB => exact (hL HB.out)); (case aF => exact (fun _ _ => trivial)); (case aO => exact (rL HO108.out)); (case aS => exact (below_size (hL HB.out))); (case aL => have := LMc2.out; omega); intro v110 w5 ho hb hg hat; rw [← Ny109.out] at ho; have n0_ := Aside0.mk (hb); have n1_ := Aside0.mk (ho); clear HB; clear HO108; have HB := n0_; have HO111 := n1_; clear n0_ n1_; clear ho hb hg hat))
 go_ret
 exact ⟨_, by first | rfl | (simp [errW_none, errW_some] <;> rfl) | (simp [*, errW_none, errW_some] <;> rfl), by exact rL HO111.out, hL HB.out⟩

/-! ### slices_Reverse_api_Intent_api_Intent: function 28 -/
def slices_Reverse_api_Intent_api_Intent.l0 : Nat → List (S29) → Int → Int → Option ((List (S29)))
 | 0, _, _, _ => none
 | k + 1, x0, x2, x3 => if x2 < x3 then (if 0 ≤ x3 then (if x3 < (x0.length : Int) then (if 0 ≤ x2 then (if x2 < (x0.length : Int) then (slices_Reverse_api_Intent_api_Intent.l0 k ((x0.set (x2 : Int).toNat (⟨(rd_T29 x0 x3).f0, (rd_T29 x0 x3).f1, (rd_T29 x0 x3).f2⟩ : S29)).set (x3 : Int).toNat (⟨(rd_T29 x0 x2).f0, (rd_T29 x0 x2).f1, (rd_T29 x0 x2).f2⟩ : S29)) (wrap64 (x2 + 1)) (wrap64 (x3 - 1))) else (none)) else (none)) else (none)) else (none)) else (some x0)
def slices_Reverse_api_Intent_api_Intent.f (k : Nat) (l0 : List (S29)) : Option ((List (S29))) := slices_Reverse_api_Intent_api_Intent.l0 k l0 0 (wrap64 ((l0.length : Int) - 1))
theorem slices_Reverse_api_Intent_api_Intent.mono_l : ∀ k, (∀ y0 y1 y2, LeO (slices_Reverse_api_Intent_api_Intent.l0 k y0 y1 y2) (slices_Reverse_api_Intent_api_Intent.l0 (k + 1) y0 y1 y2))
 | 0 => fun _ _ _ r h => by simp [slices_Reverse_api_Intent_api_Intent.l0] at h
 | k + 1 => by
  have ih0 := slices_Reverse_api_Intent_api_Intent.mono_l k
  ·intro y0 y1 y2
   unfold slices_Reverse_api_Intent_api_Intent.l0
   repeat' first
   | (with_reducible exact ih0 _ _ _)
   | (with_reducible exact LeO.refl _)
   | (with_reducible exact LeO.none _)
   | (with_reducible refine LeO.ite ?_ ?_)
   | (with_reducible refine LeO.bind ?_ (fun _ => ?_))
   | exact ih0 _ _ _
   | exact LeO.none _
   | refine LeO.ite ?_ ?_
   | refine LeO.bind ?_ (fun _ => ?_)
theorem slices_Reverse_api_Intent_api_Intent.mono : ∀ a0 k, LeO (slices_Reverse_api_Intent_api_Intent.f k a0) (slices_Reverse_api_Intent_api_Intent.f (k + 1) a0) := by
 intro a0 k
 have ih0 := slices_Reverse_api_Intent_api_Intent.mono_l k
 unfold slices_Reverse_api_Intent_api_Intent.f
 repeat' first
   | (with_reducible exact ih0 _ _ _)
   | (with_reducible exact LeO.refl _)
   | (with_reducible exact LeO.none _)
   | (with_reducible refine LeO.ite ?_ ?_)
   | (with_reducible refine LeO.bind ?_ (fun _ => ?_))
   | exact ih0 _ _ _
   | exact LeO.none _
   | refine LeO.ite ?_ ?_
   | refine LeO.bind ?_ (fun _ => ?_)
def slices_Reverse_api_Intent_api_Intent.T3 : Bool × List (List Nat × List Nat) := (true, [([], []), ([], []), ([], []), ([], []), ([], []), ([], []), ([4, 5], [4, 5]), ([6], [6]), ([], []), ([], []), ([8, 9], [8, 9]), ([10], [10]), ([0, 1, 0, 1, 4, 5, 6, 7, 11], [0, 1]), ([12, 7, 0, 1, 4, 5, 6, 7, 11], [7, 12]), ([2, 3, 0, 1, 2, 3, 4, 5, 6, 7, 8, 9, 10, 11, 12, 13], [2, 3]), ([14, 11, 13, 0, 1, 2, 3, 4, 5, 6, 7, 8, 9, 10, 11, 12, 13], [11, 14])])
def slices_Reverse_api_Intent_api_Intent.B3 : List Nat := [0, 0, 0, 0, 0, 0, 48, 112, 0, 0, 768, 1792, 4083, 8179, 16383, 32767]
theorem slices_Reverse_api_Intent_api_Intent.tab3 : rtab .any (opsOf Try.f28 3) = slices_Reverse_api_Intent_api_Intent.T3 := by kernel_rfl
theorem slices_Reverse_api_Intent_api_Intent.bits3 : waitsOk slices_Reverse_api_Intent_api_Intent.T3.2 slices_Reverse_api_Intent_api_Intent.B3 = true := by kernel_rfl
set_option maxHeartbeats 8000000 in
set_option maxRecDepth 100000 in
theorem slices_Reverse_api_Intent_api_Intent.calls (k : Nat) (P0_ : Nat → Prop) (u9000_ : Value) (l0 : List (S29)) (r : List (S29)) (w0 w : World) (hB : Below w0.heap.size w0 w) (ho0 : Kd.R k29 29 w w0.heap.size P0_ u9000_ l0) (h : slices_Reverse_api_Intent_api_Intent.f k l0 = some r) :
  Calls Try.prog 28 #[u9000_] w fun e w' => e = .returned (.tuple #[]) ∧ Kd.R k29 29 w' w0.heap.size (fun k_ => (P0_ k_ ∨ w.heap.size ≤ k_)) u9000_ r ∧ Below w0.heap.size w0 w' ∧ Kept w w' (fun k_ => P0_ k_) := by
 have hu29 := Try.underlying29
 have HO0 := Aside0.mk (show Kd.R k29 29 w w0.heap.size (fun k_ => (P0_ k_ ∨ w.heap.size ≤ k_)) u9000_ l0 from Kd.R_mono ho0 (fun k_ hk => (.inl hk)))
 have HK := Aside0.mk (Kept.refl w (fun k_ => P0_ k_))
 have HW0 := Aside0.mk hB.size
 have HB := Aside0.mk hB
 clear hB
 have H : (slices_Reverse_api_Intent_api_Intent.l0 k l0 0 (wrap64 ((l0.length : Int) - 1))) = some r := h
 clear h
 have H' := Aside0.mk H
 clear H
 obtain ⟨Ao2, co2, eo2⟩ := Kd.R_slice HO0.out
 subst eo2
 go_enter Try.func28, Try.ntmps28
 go_wp2
 go_loopg [2, 3] k (fun kq v2 v3 w' => ∃ (x0_1 : List (S29)) (x2_1 : Int) (x3_1 : Int), v2 = .int .i64 x2_1 ∧ v3 = .int .i64 x3_1 ∧ Aside0 (slices_Reverse_api_Intent_api_Intent.l0 kq x0_1 x2_1 x3_1 = some r) ∧ Aside0 (kq ≤ k) ∧ Aside0 (Kd.R k29 29 w' w0.heap.size (fun k_ => (P0_ k_ ∨ w.heap.size ≤ k_)) (.slice Ao2 l0.length co2) x0_1) ∧ Aside0 (Kept w w' (fun k_ => P0_ k_)) ∧ Aside0 (Below w0.heap.size w0 w'))
 case atStart => exact ⟨(l0), (0), (wrap64 ((l0.length : Int) - 1)), (by first | rfl | (simp; done) | (simp [*]; done) | (simp [ne_nil_bytes]; done) | (simp [eq_nil_bytes]; done)), (by first | rfl | (simp; done) | (simp [*]; done) | (simp [ne_nil_bytes]; done) | (simp [eq_nil_bytes]; done)), H', ⟨Nat.le_refl _⟩, ⟨by exact rL HO0.out⟩, ⟨by repeat (first | (with_reducible first | exact HK.out | apply Kept.alloc | apply Kept.drewN | apply Kept.drew) | exact HK.out)⟩, ⟨hL HB.out⟩⟩
 clear H'
 try clear c2
 try clear p2
 obtain ⟨x0_1, x2_1, x3_1, rfl, rfl, HA, HK1, HO_0, HK, HB⟩ := hrel
 have hl0_1 := (Kd.R_reads' HO_0.out).1
 rw [hl0_1] at HO_0
 (try simp only [hl0_1])
 rcases gk with _ | k1
 ·exact absurd HA.out (by simp [slices_Reverse_api_Intent_api_Intent.l0])
 have H := HA.out
 clear HA
 simp only [slices_Reverse_api_Intent_api_Intent.l0] at H
 by_cases c3 : x2_1 < x3_1
 rotate_left
 ·rw [if_neg c3] at H
  have c3b0 : decide (x2_1 < x3_1) = false := decide_eq_false c3
  clear c3
  obtain rfl := Option.some.inj H
  simp only [Option.some.injEq, Prod.mk.injEq] at H
  obtain ⟨rfl⟩ := H
  go_wp2
  first | go_end0 | ((try simp only [Exit.inBlock, Exit.then]); refine bodyPost_ret (results_none rfl _ _ _) rfl ?_)
  exact ⟨by first | rfl | (simp [errW_none, errW_some] <;> rfl) | (simp [*, errW_none, errW_some] <;> rfl), (by first | exact (rL HO_0.out) | (simp only [hl0_1]; exact (rL HO_0.out))), hL HB.out, by repeat (first | (with_reducible first | exact HK.out | apply Kept.alloc | apply Kept.drewN | apply Kept.drew) | exact HK.out)⟩
 rw [if_pos c3] at H
 have c3b0 : decide (x2_1 < x3_1) = true := decide_eq_true c3
 clear c3
 by_cases c4 : 0 ≤ x3_1
 rotate_left
 ·rw [if_neg c4] at H
  exact absurd H (by simp)
 rw [if_pos c4] at H
 have c4b0 : decide (0 ≤ x3_1) = true := decide_eq_true c4
 clear c4
 by_cases c5 : x3_1 < (x0_1.length : Int)
 rotate_left
 ·rw [if_neg c5] at H
  exact absurd H (by simp)
 rw [if_pos c5] at H
 have c5b0 : decide (x3_1 < (x0_1.length : Int)) = true := decide_eq_true c5
 clear c5
 by_cases c6 : 0 ≤ x2_1
 rotate_left
 ·rw [if_neg c6] at H
  exact absurd H (by simp)
 rw [if_pos c6] at H
 have c6b0 : decide (0 ≤ x2_1) = true := decide_eq_true c6
 clear c6
 by_cases c7 : x2_1 < (x0_1.length : Int)
 rotate_left
 ·rw [if_neg c7] at H
  exact absurd H (by simp)
 rw [if_pos c7] at H
 have c7b0 : decide (x2_1 < (x0_1.length : Int)) = true := decide_eq_true c7
 clear c7
 obtain ⟨y114, hy114⟩ : ∃ y_ : List (S29), y_ = (x0_1.set (x2_1 : Int).toNat (⟨(rd_T29 x0_1 x3_1).f0, (rd_T29 x0_1 x3_1).f1, (rd_T29 x0_1 x3_1).f2⟩ : S29)) := ⟨_, rfl⟩
 replace H : (slices_Reverse_api_Intent_api_Intent.l0 k1 (y114.set (x3_1 : Int).toNat (⟨(rd_T29 x0_1 x2_1).f0, (rd_T29 x0_1 x2_1).f1, (rd_T29 x0_1 x2_1).f2⟩ : S29)) (wrap64 (x2_1 + 1)) (wrap64 (x3_1 - 1))) = some r := by first | (rw [hy114]; with_reducible exact H) | (have H2_ := (Option.bind_some _ _).symm.trans H; rw [hy114]; with_reducible exact H2_) | (have H2_ := (Option.bind_some _ _).symm.trans H; with_reducible exact H2_) | with_reducible exact H | (rw [hy114]; exact H) | exact H
 have Ny114 := Aside0.mk hy114
 clear hy114
 obtain ⟨y115, hy115⟩ : ∃ y_ : List (S29), y_ = (y114.set (x3_1 : Int).toNat (⟨(rd_T29 x0_1 x2_1).f0, (rd_T29 x0_1 x2_1).f1, (rd_T29 x0_1 x2_1).f2⟩ : S29)) := ⟨_, rfl⟩
 replace H : (slices_Reverse_api_Intent_api_Intent.l0 k1 y115 (wrap64 (x2_1 + 1)) (wrap64 (x3_1 - 1))) = some r := by first | (rw [hy115]; with_reducible exact H) | (have H2_ := (Option.bind_some _ _).symm.trans H; rw [hy115]; with_reducible exact H2_) | (have H2_ := (Option.bind_some _ _).symm.trans H; with_reducible exact H2_) | with_reducible exact H | (rw [hy115]; exact H) | exact H
 have Ny115 := Aside0.mk hy115
 clear hy115
 have H' := Aside0.mk H
 clear H
 try go_wp2
 have n0_ := Aside0.mk (Kd.R_drew HO_0.out)
 have n1_ := Aside0.mk (Kept.drew HK.out)
 have n2_ := Aside0.mk (below_drew1 HB.out)
 clear HO_0
 clear HK
 clear HB
 have HO_0 := n0_
 have HK := n1_
 have HB := n2_
 clear n0_ n1_ n2_
 have p112 : 0 ≤ (x3_1 : Int) := of_decide_eq_true (by first | (with_reducible assumption) | assumption)
 have q112 : x3_1 < (x0_1.length : Int) := of_decide_eq_true (by first | (with_reducible assumption) | assumption)
 obtain ⟨ad112, e112, hx112_0, hx112_1, hx112_2⟩ := at_T29 (Kd.R_reads' HO_0.out).2.2 x3_1 p112 q112
 cases e112
 replace p112 := eq_true p112
 replace q112 := eq_true q112
 have p113 : 0 ≤ (x2_1 : Int) := of_decide_eq_true (by first | (with_reducible assumption) | assumption)
 have q113 : x2_1 < (x0_1.length : Int) := of_decide_eq_true (by first | (with_reducible assumption) | assumption)
 obtain ⟨ad113, e113, hx113_0, hx113_1, hx113_2⟩ := at_T29 (Kd.R_reads' HO_0.out).2.2 x2_1 p113 q113
 obtain rfl : ad112 = ad113 := (by injection e113)
 replace p113 := eq_true p113
 replace q113 := eq_true q113
 have p8 : 0 ≤ (x2_1 : Int) := of_decide_eq_true (by first | (with_reducible assumption) | assumption)
 have q8 : (x2_1 : Int) < ((x0_1.length : Int) : Int) := of_decide_eq_true (by first | (with_reducible assumption) | assumption)
 obtain ⟨go8, co8, eo8, gb8, gl8, cl8, HG8⟩ := Kd.R_form HO_0.out (by omega)
 (first | cases eo8 | (injection eo8 with ea_ en_ ec_; (first | subst ea_ | (injection ea_ with ea_; subst ea_)); subst ec_; clear en_))
 have GB8 := Aside0.mk gb8
 have GG8 := Aside0.mk HG8
 clear gb8 gl8 HG8
 have HMgo8 := Aside0.mk (show (P0_ go8 ∨ w.heap.size ≤ go8) from (HO_0.out.1 _ rfl))
 (first | simp only [add_plain] at hx112_0 | skip)
 (first | simp only [add_plain] at hx112_1 | skip)
 (first | simp only [add_plain] at hx112_2 | skip)
 (first | simp only [add_plain] at hx113_0 | skip)
 (first | simp only [add_plain] at hx113_1 | skip)
 (first | simp only [add_plain] at hx113_2 | skip)
 obtain ⟨ce8, hcl8, hM8, hcc8, hfr8⟩ := Kd.R_elem HO_0.out z29 (x2_1 : Int) p8 q8
 obtain rfl := k29_openM hM8
 have hx8_0 : World.cell? _ ⟨go8, (x2_1 : Int).toNat * 3, none⟩ = some (.string ((rd_T29 x0_1 x2_1).f0)) := hcc8 0 _ rfl
 have hx8_1 : World.cell? _ ⟨go8, (x2_1 : Int).toNat * 3 + 1, none⟩ = some (.int .i64 ((rd_T29 x0_1 x2_1).f1)) := hcc8 1 _ rfl
 have hx8_2 : World.cell? _ ⟨go8, (x2_1 : Int).toNat * 3 + 2, none⟩ = some (.bool ((rd_T29 x0_1 x2_1).f2)) := hcc8 2 _ rfl
 have hf8_0 : World.frozen? _ ⟨go8, (x2_1 : Int).toNat * 3, none⟩ = false := hfr8 0
 have hf8_1 : World.frozen? _ ⟨go8, (x2_1 : Int).toNat * 3 + 1, none⟩ = false := hfr8 1
 have hf8_2 : World.frozen? _ ⟨go8, (x2_1 : Int).toNat * 3 + 2, none⟩ = false := hfr8 2
 clear hcl8 hcc8 hfr8 hM8
 replace p8 := eq_true p8
 replace q8 := eq_true q8
 obtain ⟨ce11, hcl11, hM11, hcc11, hfr11⟩ := Kd.R_elem HO_0.out z29 (x2_1 : Int) (of_decide_eq_true (by first | (with_reducible assumption) | assumption)) (by have h_ : (x2_1 : Int) < ((x0_1.length : Int) : Int) := of_decide_eq_true (by first | (with_reducible assumption) | assumption); first | exact h_ | (have e_ := (Kd.R_reads' HO_0.out).1; omega) | simpa using h_)
 obtain rfl := k29_openM hM11
 have HP11 := (Kd.R_seg HO_0.out (x2_1 : Int) (of_decide_eq_true (by first | (with_reducible assumption) | assumption)) (by have h_ : (x2_1 : Int) < ((x0_1.length : Int) : Int) := of_decide_eq_true (by first | (with_reducible assumption) | assumption); first | exact h_ | (have e_ := (Kd.R_reads' HO_0.out).1; omega) | simpa using h_) (seg := [.string ((rd_T29 x0_1 x3_1).f0), .int .i64 ((rd_T29 x0_1 x3_1).f1), .bool ((rd_T29 x0_1 x3_1).f2)]) (j := 0) hcl11 hcc11 (show 3 ≤ 3 from by decide) (x' := (⟨(rd_T29 x0_1 x3_1).f0, (rd_T29 x0_1 x3_1).f1, (rd_T29 x0_1 x3_1).f2⟩ : S29)) (k29_mkM _ _ _ (⟨(rd_T29 x0_1 x3_1).f0, (rd_T29 x0_1 x3_1).f1, (rd_T29 x0_1 x3_1).f2⟩ : S29) ) (fun _ hk => hk)).1
 rw [← Ny114.out] at HP11
 have HQ11 := Aside0.mk HP11
 clear hcl11 hcc11 hfr11 hM11 HP11
 have p9 : 0 ≤ (x3_1 : Int) := of_decide_eq_true (by first | (with_reducible assumption) | assumption)
 have q9 : (x3_1 : Int) < ((x0_1.length : Int) : Int) := of_decide_eq_true (by first | (with_reducible assumption) | assumption)
 obtain ⟨ce9, hcl9, hM9, hcc9, hfr9⟩ := Kd.R_elem HQ11.out z29 (x3_1 : Int) p9 q9
 obtain rfl := k29_openM hM9
 have hx9_0 : World.cell? _ ⟨go8, (x3_1 : Int).toNat * 3, none⟩ = some (.string ((rd_T29 y114 x3_1).f0)) := hcc9 0 _ rfl
 have hx9_1 : World.cell? _ ⟨go8, (x3_1 : Int).toNat * 3 + 1, none⟩ = some (.int .i64 ((rd_T29 y114 x3_1).f1)) := hcc9 1 _ rfl
 have hx9_2 : World.cell? _ ⟨go8, (x3_1 : Int).toNat * 3 + 2, none⟩ = some (.bool ((rd_T29 y114 x3_1).f2)) := hcc9 2 _ rfl
 have hf9_0 : World.frozen? _ ⟨go8, (x3_1 : Int).toNat * 3, none⟩ = false := hfr9 0
 have hf9_1 : World.frozen? _ ⟨go8, (x3_1 : Int).toNat * 3 + 1, none⟩ = false := hfr9 1
 have hf9_2 : World.frozen? _ ⟨go8, (x3_1 : Int).toNat * 3 + 2, none⟩ = false := hfr9 2
 clear hcl9 hcc9 hfr9 hM9
 replace p9 := eq_true p9
 replace q9 := eq_true q9
 obtain ⟨ce12, hcl12, hM12, hcc12, hfr12⟩ := Kd.R_elem HQ11.out z29 (x3_1 : Int) (of_decide_eq_true (by first | (with_reducible assumption) | assumption)) (by have h_ : (x3_1 : Int) < ((x0_1.length : Int) : Int) := of_decide_eq_true (by first | (with_reducible assumption) | assumption); first | exact h_ | (have e_ := (Kd.R_reads' HO_0.out).1; omega) | simpa using h_)
 obtain rfl := k29_openM hM12
 have HP12 := (Kd.R_seg HQ11.out (x3_1 : Int) (of_decide_eq_true (by first | (with_reducible assumption) | assumption)) (by have h_ : (x3_1 : Int) < ((x0_1.length : Int) : Int) := of_decide_eq_true (by first | (with_reducible assumption) | assumption); first | exact h_ | (have e_ := (Kd.R_reads' HO_0.out).1; omega) | simpa using h_) (seg := [.string ((rd_T29 x0_1 x2_1).f0), .int .i64 ((rd_T29 x0_1 x2_1).f1), .bool ((rd_T29 x0_1 x2_1).f2)]) (j := 0) hcl12 hcc12 (show 3 ≤ 3 from by decide) (x' := (⟨(rd_T29 x0_1 x2_1).f0, (rd_T29 x0_1 x2_1).f1, (rd_T29 x0_1 x2_1).f2⟩ : S29)) (k29_mkM _ _ _ (⟨(rd_T29 x0_1 x2_1).f0, (rd_T29 x0_1 x2_1).f1, (rd_T29 x0_1 x2_1).f2⟩ : S29) ) (fun _ hk => hk)).1
 rw [← Ny115.out] at HP12
 have HQ12 := Aside0.mk HP12
 clear hcl12 hcc12 hfr12 hM12 HP12
 (try have hnnA_ : ¬ ((x3_1).toNat = (x2_1).toNat) := (by first | exact hnn_ | exact (fun e_ => hnn_ e_.symm) | exact (by have h_ : x2_1 < x3_1 := of_decide_eq_true (by first | (with_reducible assumption) | assumption); have h0_ : 0 ≤ x2_1 := (by first | assumption | (exact of_eq_true (by assumption)) | (exact of_decide_eq_true (by assumption))); omega) | exact (fun e_ => absurd e_.symm (by have h_ : x3_1 < x2_1 := of_decide_eq_true (by first | (with_reducible assumption) | assumption); have h0_ : 0 ≤ x3_1 := (by first | assumption | (exact of_eq_true (by assumption)) | (exact of_decide_eq_true (by assumption))); omega))))
 (try simp only [World.frozen?_setCells] at hf8_0)
 (try simp only [World.frozen?_setCells] at hf8_1)
 (try simp only [World.frozen?_setCells] at hf8_2)
 (try simp only [World.frozen?_setCells] at hf9_0)
 (try simp only [World.frozen?_setCells] at hf9_1)
 (try simp only [World.frozen?_setCells] at hf9_2)
 (try have hnnB_ : ¬ ((x2_1).toNat = (x3_1).toNat) := fun e_ => hnnA_ e_.symm)
 refine start_ (n := 16) (S := fun w' => w'.cell? ⟨go8, ((x3_1).toNat * 3), none⟩ = some (.string ((rd_T29 x0_1 x3_1).f0)) ∧ w'.cell? ⟨go8, ((x3_1).toNat * 3) + 1, none⟩ = some (.int .i64 ((rd_T29 x0_1 x3_1).f1)) ∧ w'.cell? ⟨go8, ((x3_1).toNat * 3) + 2, none⟩ = some (.bool ((rd_T29 x0_1 x3_1).f2)) ∧ w'.cell? ⟨go8, ((x2_1).toNat * 3), none⟩ = some (.string ((rd_T29 x0_1 x2_1).f0)) ∧ w'.cell? ⟨go8, ((x2_1).toNat * 3) + 1, none⟩ = some (.int .i64 ((rd_T29 x0_1 x2_1).f1)) ∧ w'.cell? ⟨go8, ((x2_1).toNat * 3) + 2, none⟩ = some (.bool ((rd_T29 x0_1 x2_1).f2))) (ds := [13, 15]) #[false, false, false, false, false, false, false, false, false, false, false, false, false, false, false, false] (by kernel_rfl) rfl rfl ⟨hx112_0, hx112_1, hx112_2, hx113_0, hx113_1, hx113_2⟩ (fun hHeld => ?_); refine with_tabW slices_Reverse_api_Intent_api_Intent.tab3 slices_Reverse_api_Intent_api_Intent.bits3 (fun HT_ HW_ => ?_)
 generalize wr.drew = w10 at HO_0 HK HB GG8 HQ11 HQ12 hf8_0 hf8_1 hf8_2 hf9_0 hf9_1 hf9_2 hx112_0 hx112_1 hx112_2 hx113_0 hx113_1 hx113_2 hx8_0 hx8_1 hx8_2 hx9_0 hx9_1 hx9_2 hHeld ⊢
 refine pure_ (i := 0) (N := some 14) (v := ?_) (a' := ?_) #[true, false, false, false, false, false, false, false, false, false, false, false, false, false, false, false] rfl rfl (any_of HT_.out (by kernel_rfl)) (fun _ _ _ h => h) (Or.inl ⟨by rfl, ?_⟩) ?_ ?_
 rotate_left
 ·intro w'
  go_simp
  with_reducible rfl
 rotate_left
 ·simp only [Act.put, sT, sZ, sS, i64_w, i32_w]
  rfl
 refine pure_ (i := 1) (N := some 15) (v := ?_) (a' := ?_) #[true, true, false, false, false, false, false, false, false, false, false, false, false, false, false, false] rfl rfl (any_of HT_.out (by kernel_rfl)) (fun _ _ _ h => h) (Or.inl ⟨by rfl, ?_⟩) ?_ ?_
 rotate_left
 ·intro w'
  go_simp
  with_reducible rfl
 rotate_left
 ·simp only [Act.put, sT, sZ, sS, i64_w, i32_w]
  rfl
 refine pure_ (i := 2) (N := some 16) (v := ?_) (a' := ?_) #[true, true, true, false, false, false, false, false, false, false, false, false, false, false, false, false] rfl rfl (any_of HT_.out (by kernel_rfl)) (fun _ _ _ h => h) (Or.inl ⟨by rfl, ?_⟩) ?_ ?_
 rotate_left
 ·intro w'
  go_simp
  with_reducible rfl
 rotate_left
 ·simp only [Act.put, sT, sZ, sS, i64_w, i32_w]
  rfl
 refine pure_ (i := 3) (N := some 17) (v := ?_) (a' := ?_) #[true, true, true, true, false, false, false, false, false, false, false, false, false, false, false, false] rfl rfl (any_of HT_.out (by kernel_rfl)) (fun _ _ _ h => h) (Or.inl ⟨by rfl, ?_⟩) ?_ ?_
 rotate_left
 ·intro w'
  go_simp
  with_reducible rfl
 rotate_left
 ·simp only [Act.put, sT, sZ, sS, i64_w, i32_w]
  rfl
 refine pure_ (i := 4) (N := some 18) (v := ?_) (a' := ?_) #[true, true, true, true, true, false, false, false, false, false, false, false, false, false, false, false] rfl rfl (any_of HT_.out (by kernel_rfl)) (fun _ _ _ h => h) (Or.inl ⟨by rfl, ?_⟩) ?_ ?_
 rotate_left
 ·intro w'
  go_simp
  with_reducible rfl
 rotate_left
 ·simp only [Act.put, sT, sZ, sS, i64_w, i32_w]
  rfl
 refine pure_ (i := 5) (N := some 19) (v := ?_) (a' := ?_) #[true, true, true, true, true, true, false, false, false, false, false, false, false, false, false, false] rfl rfl (any_of HT_.out (by kernel_rfl)) (fun _ _ _ h => h) (Or.inl ⟨by rfl, ?_⟩) ?_ ?_
 rotate_left
 ·intro w'
  go_simp
  with_reducible rfl
 rotate_left
 ·simp only [Act.put, sT, sZ, sS, i64_w, i32_w]
  rfl
 refine pure_ (i := 6) (N := some 20) (v := ?_) (a' := ?_) #[true, true, true, true, true, true, true, false, false, false, false, false, false, false, false, false] rfl rfl (any_of HT_.out (by kernel_rfl)) (fun _ _ _ h => h) (Or.inl ⟨by rfl, ?_⟩) ?_ ?_
 rotate_left
 ·intro w'
  go_simp
  with_reducible rfl
 rotate_left
 ·simp only [Act.put, sT, sZ, sS, i64_w, i32_w]
  rfl
 refine pure_ (i := 8) (N := some 22) (v := ?_) (a' := ?_) #[true, true, true, true, true, true, true, false, true, false, false, false, false, false, false, false] rfl rfl (any_of HT_.out (by kernel_rfl)) (fun _ _ _ h => h) (Or.inl ⟨by rfl, ?_⟩) ?_ ?_
 rotate_left
 ·intro w'
  go_simp
  with_reducible rfl
 rotate_left
 ·simp only [Act.put, sT, sZ, sS, i64_w, i32_w]
  rfl
 refine pure_ (i := 9) (N := some 23) (v := ?_) (a' := ?_) #[true, true, true, true, true, true, true, false, true, true, false, false, false, false, false, false] rfl rfl (any_of HT_.out (by kernel_rfl)) (fun _ _ _ h => h) (Or.inl ⟨by rfl, ?_⟩) ?_ ?_
 rotate_left
 ·intro w'
  go_simp
  with_reducible rfl
 rotate_left
 ·simp only [Act.put, sT, sZ, sS, i64_w, i32_w]
  rfl
 refine pure_ (i := 10) (N := some 24) (v := ?_) (a' := ?_) #[true, true, true, true, true, true, true, false, true, true, true, false, false, false, false, false] rfl rfl (any_of HT_.out (by kernel_rfl)) (fun _ _ _ h => h) (Or.inl ⟨by rfl, ?_⟩) ?_ ?_
 rotate_left
 ·intro w'
  go_simp
  with_reducible rfl
 rotate_left
 ·simp only [Act.put, sT, sZ, sS, i64_w, i32_w]
  rfl
 refine take_ (i := 7) (N := some 21) (v := ?_) (a' := ?_) #[true, true, true, true, true, true, true, true, true, true, true, false, false, false, false, false] rfl rfl (take_ofW HT_.out HW_.out (by kernel_rfl)) (fun _ _ _ h => h) (Or.inl ⟨by rfl, ?_⟩) hHeld ?_ ?_
 rotate_left
 ·rintro w' ⟨s0, s1, s2, s3, s4, s5⟩
  go_simp
  with_reducible rfl
 rotate_left
 ·simp only [Act.put, sT, sZ, sS, i64_w, i32_w]
  rfl
 refine take_ (i := 11) (N := some 25) (v := ?_) (a' := ?_) #[true, true, true, true, true, true, true, true, true, true, true, true, false, false, false, false] rfl rfl (take_ofW HT_.out HW_.out (by kernel_rfl)) (fun _ _ _ h => h) (Or.inl ⟨by rfl, ?_⟩) hHeld ?_ ?_
 rotate_left
 ·rintro w' ⟨s0, s1, s2, s3, s4, s5⟩
  go_simp
  with_reducible rfl
 rotate_left
 ·simp only [Act.put, sT, sZ, sS, i64_w, i32_w]
  rfl
 refine pure_ (i := 12) (N := some 26) (v := ?_) (a' := ?_) #[true, true, true, true, true, true, true, true, true, true, true, true, true, false, false, false] rfl rfl (any_of HT_.out (by kernel_rfl)) (fun _ _ _ h => h) (Or.inl ⟨by rfl, ?_⟩) ?_ ?_
 rotate_left
 ·intro w'
  go_simp
  with_reducible rfl
 rotate_left
 ·simp only [Act.put, sT, sZ, sS, i64_w, i32_w]
  rfl
 refine last_ (i := 13) (N := none) #[true, true, true, true, true, true, true, true, true, true, true, true, true, true, false, false] rfl rfl (one_of HT_.out (by kernel_rfl)) (by decide) (fun K hK => ?_)
 refine skip_ (w1 := ?_) (by rfl) rfl ?_ ?_
 rotate_left
 ·go_simp
  rfl
 refine hK.out _ _ ?_
 clear hK K
 refine pure_ (i := 14) (N := some 27) (v := ?_) (a' := ?_) #[true, true, true, true, true, true, true, true, true, true, true, true, true, true, true, false] rfl rfl (any_of HT_.out (by kernel_rfl)) (fun _ _ _ h => h) (Or.inl ⟨by rfl, ?_⟩) ?_ ?_
 rotate_left
 ·intro w'
  go_simp
  with_reducible rfl
 rotate_left
 ·simp only [Act.put, sT, sZ, sS, i64_w, i32_w]
  rfl
 refine last_ (i := 15) (N := none) #[true, true, true, true, true, true, true, true, true, true, true, true, true, true, true, true] rfl rfl (one_of HT_.out (by kernel_rfl)) (by decide) (fun K hK => ?_)
 refine skip_ (w1 := ?_) (by rfl) rfl ?_ ?_
 rotate_left
 ·go_simp
  rfl
 refine hK.out _ _ ?_
 clear hK K
 refine done_ (done_of HT_.out (by kernel_rfl)) ?_
 try go_wp2
 (try simp only [← hl0_1])
 go_roundg k1
 case measure => have := HK1.out; omega
 case rel => exact ⟨(y115), (wrap64 (x2_1 + 1)), (wrap64 (x3_1 - 1)), (by first | rfl | (simp; done) | (simp [*]; done) | (simp [ne_nil_bytes]; done) | (simp [eq_nil_bytes]; done)), (by first | rfl | (simp; done) | (simp [*]; done) | (simp [ne_nil_bytes]; done) | (simp [eq_nil_bytes]; done)), H', ⟨by have := HK1.out; omega⟩, ⟨by (try simp only [hl0_1]); exact (by first | exact rL HQ12.out | exact HQ12.out)⟩, ⟨by repeat (first | (with_reducible first | exact HK.out | apply Kept.alloc | apply Kept.drewN | apply Kept.drew | refine Kept.setCell ?_ HMgo8.out _ | refine Kept.setCell ?_ HMgo8.out _ | refine Kept.setCell ?_ HMgo8.out _ | refine Kept.setCell ?_ HMgo8.out _ | refine Kept.setCell ?_ HMgo8.out _ | refine Kept.setCell ?_ HMgo8.out _) | exact HK.out)⟩, ⟨by repeat (first | (with_reducible first | exact HB.out | apply below_alloc | apply pw_below_drewN | apply below_drew1 | refine below_set ?_ GB8.out | refine below_set ?_ GB8.out | refine below_set ?_ GB8.out | refine below_set ?_ GB8.out | refine below_set ?_ GB8.out | refine below_set ?_ GB8.out) | exact HB.out)⟩⟩

-- NOT PRINTED: function 71 (slices_insertionSortCmpFunc_api_Intent)

-- NOT PRINTED: function 79 (slices_swapRangeCmpFunc_api_Intent)

-- NOT PRINTED: function 77 (slices_rotateCmpFunc_api_Intent)

-- NOT PRINTED: function 72 (slices_symMergeCmpFunc_api_Intent)

-- NOT PRINTED: function 56 (slices_stableCmpFunc_api_Intent)

-- NOT PRINTED: function 29 (slices_SortStableFunc_api_Intent_api_Intent)

-- NOT PRINTED: function 34 (slices_Clip_api_Intent_api_Intent)

-- NOT PRINTED: function 35 (slices_CompactFunc_api_Intent_api_Intent)

/-! ### cmp_isNaN_string: function 57 -/
def cmp_isNaN_string.f (a0 : ByteArray) : Option (Bool) := some (a0.toList != a0.toList)
set_option maxHeartbeats 8000000 in
set_option maxRecDepth 100000 in
theorem cmp_isNaN_string.calls (a0 : ByteArray) (r : Bool) (w : World) (h : cmp_isNaN_string.f a0 = some r) :
  Calls Try.prog 57 #[.string a0] w fun e w' => e = .returned (.bool r) ∧ Drawn0 w w' := by
 have H : (some (a0.toList != a0.toList)) = some r := h
 clear h
 obtain rfl := Option.some.inj H
 simp only [Option.some.injEq, Prod.mk.injEq] at H
 obtain ⟨rfl⟩ := H
 go_enter Try.func57, Try.ntmps57
 go_wp2
 go_ret
 exact ⟨by first | rfl | (simp; done) | (simp [*]; done), by repeat (first | exact Drawn0.refl _ | apply Drawn0.step)⟩

end Go.Proofs.Ytdaikljbljcagaa.PAll
