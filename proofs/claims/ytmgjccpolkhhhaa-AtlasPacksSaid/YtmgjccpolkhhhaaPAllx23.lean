-- Written by a program of this session for this claim (mp.py, over the kit's print); Lean checks it.
import Derived.Test.YtmgjccpolkhhhaaPAllx0
import Derived.Test.YtmgjccpolkhhhaaPAllx11
namespace Go.Proofs.Ytmgjccpolkhhhaa.PAll
open Go.RowKit Go.Proofs.YtmgjccpolkhhhaaW.PrintWords Go.Proofs.YtmgjccpolkhhhaaW.PrintLast Go.Proofs.YtmgjccpolkhhhaaW.PrintMore Go.Proofs.Ytmgjccpolkhhhaa.Fv Go.Proofs.Ytmgjccpolkhhhaa.Hl
attribute [local go_sem] max2_int min2_int max_two min_two max_three min_three max_four min_four str_gtr str_leq str_geq cell_set2   -- for this text's walks alone
set_option linter.unusedVariables false
set_option linter.unusedSimpArgs false

-- NOT PRINTED: function 7 (shelfmarklaw12_AtlasTiles)

/-! ### shelfmarkref01_Num: function 46 -/
def shelfmarkref01_Num.f : Nat → Int → Option (List Int)
 | 0, _ => none
 | k + 1, a0 => if a0 < 0 then (some ([] : List Int)) else (if a0 < 128 then (some (([(a0) % 256] : List Int))) else ((some (([(wrap64 (128 + (Int.tmod a0 128))) % 256] : List Int) : List Int)).bind fun y439 => ((shelfmarkref01_Num.f k (wrap64 (Int.tdiv a0 128))).bind fun t442 => (if y439.length + t442.length < 140737488355328 then (some (y439 ++ t442)) else (none)))))
theorem shelfmarkref01_Num.mono_l : ∀ k, (∀ y0, LeO (shelfmarkref01_Num.f k y0) (shelfmarkref01_Num.f (k + 1) y0))
 | 0 => fun _ r h => by simp [shelfmarkref01_Num.f] at h
 | k + 1 => by
  have ih0 := shelfmarkref01_Num.mono_l k
  ·intro y0
   unfold shelfmarkref01_Num.f
   repeat' first
   | (with_reducible exact ih0 _)
   | (with_reducible exact LeO.refl _)
   | (with_reducible exact LeO.none _)
   | (with_reducible refine LeO.ite ?_ ?_)
   | (with_reducible refine LeO.bind ?_ (fun _ => ?_))
   | exact ih0 _
   | exact LeO.none _
   | refine LeO.ite ?_ ?_
   | refine LeO.bind ?_ (fun _ => ?_)
theorem shelfmarkref01_Num.mono : ∀ a0 k, LeO (shelfmarkref01_Num.f k a0) (shelfmarkref01_Num.f (k + 1) a0) := by
 intro a0 k
 have ih0 := shelfmarkref01_Num.mono_l k
 exact ih0 a0
set_option maxHeartbeats 8000000 in
set_option maxRecDepth 100000 in
theorem shelfmarkref01_Num.calls (k : Nat) : ∀ (a0 : Int) (r : List Int) (w : World) (h : shelfmarkref01_Num.f k a0 = some r),
  Calls Try.prog 46 #[.int .i64 a0] w fun e w' => ∃ v0_ : Value, e = .returned (v0_) ∧ Kd.R (Kd.int .u8) 5 w' w.heap.size (fun _ => True) v0_ r ∧ Below w.heap.size w w' := by
 induction k using Nat.strongRecOn with
 | _ k ih =>
 intro a0 r w h
 cases k with
 | zero => exact absurd h (by simp [shelfmarkref01_Num.f])
 | succ k =>
 simp only [shelfmarkref01_Num.f] at h
 have HB := Aside0.mk (Below.refl w.heap.size w)
 have H : (if a0 < 0 then (some ([] : List Int)) else (if a0 < 128 then (some (([(a0) % 256] : List Int))) else ((some (([(wrap64 (128 + (Int.tmod a0 128))) % 256] : List Int) : List Int)).bind fun y439 => ((shelfmarkref01_Num.f k (wrap64 (Int.tdiv a0 128))).bind fun t442 => (if y439.length + t442.length < 140737488355328 then (some (y439 ++ t442)) else (none)))))) = some r := h
 clear h
 by_cases c2 : a0 < 0
 ·rw [if_pos c2] at H
  have c2b0 : decide (a0 < 0) = true := decide_eq_true c2
  clear c2
  obtain rfl := Option.some.inj H
  simp only [Option.some.injEq, Prod.mk.injEq] at H
  obtain ⟨rfl⟩ := H
  go_enter Try.func46, Try.ntmps46
  go_wp2
  go_ret
  exact ⟨_, by first | rfl | (simp [errW_none, errW_some] <;> rfl) | (simp [*, errW_none, errW_some] <;> rfl), by first | exact Kd.R_nil _ _ _ _ _ | exact Kd.N_nil _ _ _ _ _ | exact Kd.V_nil _ _ _ _ _ | exact Kd.Q_nil _ _ _ _ _ | exact Kd.S_nil _ _ _ _ _, hL HB.out⟩
 ·rw [if_neg c2] at H
  have c2b0 : decide (a0 < 0) = false := decide_eq_false c2
  clear c2
  by_cases c3 : a0 < 128
  ·rw [if_pos c3] at H
   have c3b0 : decide (a0 < 128) = true := decide_eq_true c3
   clear c3
   obtain ⟨y436, hy436⟩ : ∃ y_ : List Int, y_ = (([(a0) % 256] : List Int)) := ⟨_, rfl⟩
   replace H : (some y436) = some r := by first | (rw [hy436]; with_reducible exact H) | (have H2_ := (Option.bind_some _ _).symm.trans H; rw [hy436]; with_reducible exact H2_) | (have H2_ := (Option.bind_some _ _).symm.trans H; with_reducible exact H2_) | with_reducible exact H | (rw [hy436]; exact H) | exact H
   have Ny436 := Aside0.mk hy436
   clear hy436
   obtain rfl := Option.some.inj H
   simp only [Option.some.injEq, Prod.mk.injEq] at H
   obtain ⟨rfl⟩ := H
   go_enter Try.func46, Try.ntmps46
   go_wp2_with (first | ((with_reducible refine gate_dst (N := 9) rfl ?_); refine Kd.R_lit (Kd.int .u8) _ 5 ?hg (N := 9) ?hd (xs := ([(a0) % 256] : List Int)) (inner := [.int .u8 ((a0) % 256)]) (ok := fun _ => True) (okp := fun _ => True) ?hr ?hp (fun _ hk => hk) trivial (Below.refl _ _) (Nat.le_refl _) (by simp) ?_; (case hd => rfl); (case hg => rfl); (case hr => first | (go_simp; done) | (go_simp; rfl)); (case hp => exact (Reps.one (show Kd.M (Kd.int .u8) _ _ _ ((a0) % 256) [.int .u8 ((a0) % 256)] from rfl) (Reps.none _ _))); intro v437 w4 ho5 hb hg_ hnew_; clear hg_ hnew_; (first | rw [← Ny436.out] at ho5 | (simp only [Int.reduceToNat] at ho5; rw [← Ny436.out] at ho5)); have n0_ := Aside0.mk (Kd.R_lower ho5 (below_size (hL HB.out))); have n1_ := Aside0.mk (below_step (hL HB.out) hb); clear HB; have HO438 := n0_; have HB := n1_; clear n0_ n1_; clear hb ho5))
   go_ret
   exact ⟨_, by first | rfl | (simp [errW_none, errW_some] <;> rfl) | (simp [*, errW_none, errW_some] <;> rfl), by exact rL HO438.out, hL HB.out⟩
  ·rw [if_neg c3] at H
   have c3b0 : decide (a0 < 128) = false := decide_eq_false c3
   clear c3
   obtain ⟨y439, hy439⟩ : ∃ y_ : List Int, y_ = (([(wrap64 (128 + (Int.tmod a0 128))) % 256] : List Int)) := ⟨_, rfl⟩
   replace H : ((shelfmarkref01_Num.f k (wrap64 (Int.tdiv a0 128))).bind fun t442 => (if y439.length + t442.length < 140737488355328 then (some (y439 ++ t442)) else (none))) = some r := by first | (rw [hy439]; with_reducible exact H) | (have H2_ := (Option.bind_some _ _).symm.trans H; rw [hy439]; with_reducible exact H2_) | (have H2_ := (Option.bind_some _ _).symm.trans H; with_reducible exact H2_) | with_reducible exact H | (rw [hy439]; exact H) | exact H
   have Ny439 := Aside0.mk hy439
   clear hy439
   replace H := Option.bind_eq_some_iff.mp H
   obtain ⟨t442, A60, H⟩ := H
   replace H : (if y439.length + t442.length < 140737488355328 then (some (y439 ++ t442)) else (none)) = some r := H
   have A6 := Aside0.mk A60
   clear A60
   by_cases c7 : y439.length + t442.length < 140737488355328
   ·rw [if_pos c7] at H
    have LMc7 := Aside0.mk c7
    clear c7
    obtain ⟨y445, hy445⟩ : ∃ y_ : List Int, y_ = (y439 ++ t442) := ⟨_, rfl⟩
    replace H : (some y445) = some r := by first | (rw [hy445]; with_reducible exact H) | (have H2_ := (Option.bind_some _ _).symm.trans H; rw [hy445]; with_reducible exact H2_) | (have H2_ := (Option.bind_some _ _).symm.trans H; with_reducible exact H2_) | with_reducible exact H | (rw [hy445]; exact H) | exact H
    have Ny445 := Aside0.mk hy445
    clear hy445
    obtain rfl := Option.some.inj H
    simp only [Option.some.injEq, Prod.mk.injEq] at H
    obtain ⟨rfl⟩ := H
    go_enter Try.func46, Try.ntmps46
    go_wp2_with (first | ((with_reducible refine gate_dst (N := 14) rfl ?_); refine Kd.R_lit (Kd.int .u8) _ 5 ?hg (N := 14) ?hd (xs := ([(wrap64 (128 + (Int.tmod a0 128))) % 256] : List Int)) (inner := [.int .u8 ((wrap64 (128 + (Int.tmod a0 128))) % 256)]) (ok := fun _ => True) (okp := fun _ => True) ?hr ?hp (fun _ hk => hk) trivial (Below.refl _ _) (Nat.le_refl _) (by simp) ?_; (case hd => rfl); (case hg => rfl); (case hr => first | (go_simp; done) | (go_simp; rfl)); (case hp => exact (Reps.one (show Kd.M (Kd.int .u8) _ _ _ ((wrap64 (128 + (Int.tmod a0 128))) % 256) [.int .u8 ((wrap64 (128 + (Int.tmod a0 128))) % 256)] from rfl) (Reps.none _ _))); intro v440 w8 ho9 hb hg_ hnew_; clear hg_ hnew_; (first | rw [← Ny439.out] at ho9 | (simp only [Int.reduceToNat] at ho9; rw [← Ny439.out] at ho9)); have n0_ := Aside0.mk (Kd.R_lower ho9 (below_size (hL HB.out))); have n1_ := Aside0.mk (below_step (hL HB.out) hb); clear HB; have HO441 := n0_; have HB := n1_; clear n0_ n1_; clear hb ho9) | ((with_reducible refine gate_callee (f := 46) rfl ?_); refine goesL_ (some 17) rfl rfl Try.func46 (by kernel_rfl) rfl #[.int .i64 (wrap64 (Int.tdiv a0 128))] rfl (by (try simp only [List.map_toArray, List.map_cons, List.map_nil]); first | done | rfl | (simp only [List.length_drop, List.length_take]; rfl)) ?_; (with_reducible refine (ih k (by omega) (wrap64 (Int.tdiv a0 128)) t442 _ A6.out).mono ?_); rintro e w10 ⟨v443, rfl, ho0, hb⟩; refine ⟨_, rfl, ?_⟩; have n0_ := Aside0.mk (Kd.R_elder' (rL HO441.out) (Kd.R_base ho0) hb); have n1_ := Aside0.mk (Kd.R_lower (Kd.R_new' ho0 (Kd.R_lt (rL HO441.out))) (below_size (hL HB.out))); have n2_ := Aside0.mk (below_step (hL HB.out) hb); clear HO441; clear HB; have HO441 := n0_; have HO444 := n1_; have HB := n2_; clear n0_ n1_ n2_; (try clear hb); (try clear hb2); (try clear hk); (try clear hi); (try clear ho0); obtain ⟨Ao12, co12, eo12⟩ := Kd.R_slice HO444.out; subst eo12) | ((with_reducible refine gate_builtin (b := .append) (xs := #[.tmp 14, .tmp 17]) rfl ?_); at_builtin; refine Kd.R_append_rows (Kd.int .u8) (w0 := w) w.heap.size rfl (.tmp 14) (.tmp 17) 59 5 (.int .u8 0) 1 rfl Try.underlying59 info5 rfl (by decide) (by omega) v440 y439 t442 _ _ _ (fun k_ => some k_ ≠ (.slice Ao12 t442.length co12 : Value).ownBlock) (fun _ => False) rfl rfl ?aO ?aR (fun _ _ h => h) (fun _ h => h.elim) ?aF ?aB ?aS ?aL ?_; (case aR => repeat (first | exact (Kd.R_reads' HO444.out).2.2 | (with_reducible refine Kd.C_alloc ?_ _) | (with_reducible refine Kd.C_drewN ?_ _) | (with_reducible refine Kd.C_drew ?_))); (case aB => exact (hL HB.out)); (case aF => exact (fun k_ hk => Kd.fresh' (Kd.R_lt (rL HO444.out)) k_ hk)); (case aO => exact (by (with_reducible repeat (first | apply Kd.R_alloc | apply Kd.R_drewN | apply Kd.R_drew)); exact Kd.R_mono HO441.out (fun _ hk => hk.2))); (case aS => exact (below_size (hL HB.out))); (case aL => have := LMc7.out; omega); intro v446 w11 ho hb hg hat; rw [← Ny445.out] at ho; have n0_ := Aside0.mk (Kd.R_after (ok := (fun _ => True)) (rL HO444.out) hg hat); have n1_ := Aside0.mk (hb); have n2_ := Aside0.mk (ho); clear HO444; clear HB; clear HO441; have HO444 := n0_; have HB := n1_; have HO447 := n2_; clear n0_ n1_ n2_; clear ho hb hg hat))
    go_ret
    exact ⟨_, by first | rfl | (simp [errW_none, errW_some] <;> rfl) | (simp [*, errW_none, errW_some] <;> rfl), by (with_reducible repeat (first | apply Kd.R_alloc | apply Kd.R_drewN | apply Kd.R_drew)); exact Kd.R_mono HO447.out (fun _ hk => trivial), hL HB.out⟩
   ·rw [if_neg c7] at H
    exact absurd H (by simp)

/-! ### shelfmarkref01_Text: function 47 -/
def shelfmarkref01_Text.f (k : Nat) (a0 : ByteArray) : Option (List Int) := (shelfmarkref01_Num.f k (a0.size : Int)).bind fun t448 => (if t448.length + a0.size < 140737488355328 then (some (t448 ++ bytesOf a0)) else (none))
theorem shelfmarkref01_Text.mono : ∀ a0 k, LeO (shelfmarkref01_Text.f k a0) (shelfmarkref01_Text.f (k + 1) a0) := by
 intro a0 k
 unfold shelfmarkref01_Text.f
 repeat' first
   | (with_reducible exact shelfmarkref01_Num.mono _ _)
   | (with_reducible exact LeO.refl _)
   | (with_reducible exact LeO.none _)
   | (with_reducible refine LeO.ite ?_ ?_)
   | (with_reducible refine LeO.bind ?_ (fun _ => ?_))
   | exact shelfmarkref01_Num.mono _ _
   | exact LeO.none _
   | refine LeO.ite ?_ ?_
   | refine LeO.bind ?_ (fun _ => ?_)
set_option maxHeartbeats 8000000 in
set_option maxRecDepth 100000 in
theorem shelfmarkref01_Text.calls (k : Nat) (a0 : ByteArray) (r : List Int) (w : World) (h : shelfmarkref01_Text.f k a0 = some r) :
  Calls Try.prog 47 #[.string a0] w fun e w' => ∃ v0_ : Value, e = .returned (v0_) ∧ Kd.R (Kd.int .u8) 5 w' w.heap.size (fun _ => True) v0_ r ∧ Below w.heap.size w w' := by
 have HB := Aside0.mk (Below.refl w.heap.size w)
 have H : ((shelfmarkref01_Num.f k (a0.size : Int)).bind fun t448 => (if t448.length + a0.size < 140737488355328 then (some (t448 ++ bytesOf a0)) else (none))) = some r := h
 clear h
 replace H := Option.bind_eq_some_iff.mp H
 obtain ⟨t448, A20, H⟩ := H
 replace H : (if t448.length + a0.size < 140737488355328 then (some (t448 ++ bytesOf a0)) else (none)) = some r := H
 have A2 := Aside0.mk A20
 clear A20
 by_cases c3 : t448.length + a0.size < 140737488355328
 ·rw [if_pos c3] at H
  have LMc3 := Aside0.mk c3
  clear c3
  obtain ⟨y451, hy451⟩ : ∃ y_ : List Int, y_ = (t448 ++ bytesOf a0) := ⟨_, rfl⟩
  replace H : (some y451) = some r := by first | (rw [hy451]; with_reducible exact H) | (have H2_ := (Option.bind_some _ _).symm.trans H; rw [hy451]; with_reducible exact H2_) | (have H2_ := (Option.bind_some _ _).symm.trans H; with_reducible exact H2_) | with_reducible exact H | (rw [hy451]; exact H) | exact H
  have Ny451 := Aside0.mk hy451
  clear hy451
  obtain rfl := Option.some.inj H
  simp only [Option.some.injEq, Prod.mk.injEq] at H
  obtain ⟨rfl⟩ := H
  go_enter Try.func47, Try.ntmps47
  go_wp2_with (first | ((with_reducible refine gate_callee (f := 46) rfl ?_); refine goesL_ (some 5) rfl rfl Try.func46 (by kernel_rfl) rfl #[.int .i64 (a0.size : Int)] rfl (by (try simp only [List.map_toArray, List.map_cons, List.map_nil]); first | done | rfl | (simp only [List.length_drop, List.length_take]; rfl)) ?_; (with_reducible refine (shelfmarkref01_Num.calls k (a0.size : Int) t448 _ A2.out).mono ?_); rintro e w4 ⟨v449, rfl, ho0, hb⟩; refine ⟨_, rfl, ?_⟩; have n0_ := Aside0.mk (Kd.R_lower ho0 (below_size (hL HB.out))); have n1_ := Aside0.mk (below_step (hL HB.out) hb); clear HB; have HO450 := n0_; have HB := n1_; clear n0_ n1_; (try clear hb); (try clear hb2); (try clear hk); (try clear hi); (try clear ho0)) | (at_builtin; refine print_append_str (w0 := w) w.heap.size rfl (.tmp 5) _ 59 9 5 rfl Try.underlying59 Try.underlying9 info5 v449 t448 a0 rfl rfl ?aO ?aB ?aS ?aL ?_; (case aB => exact (hL HB.out)); (case aO => exact (Kd.own_of_R (rL HO450.out))); (case aS => exact (below_size (hL HB.out))); (case aL => have := LMc3.out; omega); intro v452 w5 ho0 hb hg; have ho := Kd.R_of_own (h1 := fun _ => rfl) (ok := fun _ => True) ho0 (fun _ _ => trivial); clear ho0; have hat := True.intro; rw [← Ny451.out] at ho; change Kd.R (Kd.int .u8) 5 w5 w.heap.size (fun _ => True) v452 y451 at ho; have n0_ := Aside0.mk (hb); have n1_ := Aside0.mk (ho); clear HB; clear HO450; have HB := n0_; have HO453 := n1_; clear n0_ n1_; clear ho hb hg hat))
  go_ret
  exact ⟨_, by first | rfl | (simp [errW_none, errW_some] <;> rfl) | (simp [*, errW_none, errW_some] <;> rfl), by exact rL HO453.out, hL HB.out⟩
 ·rw [if_neg c3] at H
  exact absurd H (by simp)

/-! ### shelfmarkref12_Pack: function 26 -/
def shelfmarkref12_Pack.l0 : Nat → List Int → Int → Int → List (S46) → Option (ByteArray × Int)
 | 0, _, _, _, _ => none
 | k + 1, x5, x6, x455000, x455001 => if x6 < (x455001.length : Int) then (if 0 ≤ x6 then ((shelfmarkref01_Text.f k ((rd_T46 x455001 x6).f0)).bind fun t466 => (if x5.length + t466.length < 140737488355328 then ((some (x5 ++ t466 : List Int)).bind fun y469 => ((shelfmarkref01_Num.f k ((rd_T46 x455001 x6).f1)).bind fun t473 => (if y469.length + t473.length < 140737488355328 then (shelfmarkref12_Pack.l0 k (y469 ++ t473) (wrap64 (x6 + 1)) x455000 x455001) else (none)))) else (none))) else (none)) else (some (strOfNums x5, 0))
def shelfmarkref12_Pack.f (k : Nat) (a0_0 : Int) (l0_1 : List (S46)) : Option (ByteArray × Int) := (shelfmarkref12_Check.f k a0_0 l0_1).bind fun t455 => (if t455 = 0 then ((shelfmarkref01_Num.f k a0_0).bind fun t456 => ((shelfmarkref01_Num.f k (l0_1.length : Int)).bind fun t459 => (if t456.length + t459.length < 140737488355328 then (shelfmarkref12_Pack.l0 k (t456 ++ t459) 0 a0_0 l0_1) else (none)))) else (some ((⟨#[]⟩ : ByteArray), t455)))
theorem shelfmarkref12_Pack.mono_l : ∀ k, (∀ y0 y1 y2 y3, LeO (shelfmarkref12_Pack.l0 k y0 y1 y2 y3) (shelfmarkref12_Pack.l0 (k + 1) y0 y1 y2 y3))
 | 0 => fun _ _ _ _ r h => by simp [shelfmarkref12_Pack.l0] at h
 | k + 1 => by
  have ih0 := shelfmarkref12_Pack.mono_l k
  ·intro y0 y1 y2 y3
   unfold shelfmarkref12_Pack.l0
   repeat' first
   | (with_reducible exact ih0 _ _ _ _)
   | (with_reducible exact shelfmarkref01_Num.mono _ _)
   | (with_reducible exact shelfmarkref01_Text.mono _ _)
   | (with_reducible exact shelfmarkref12_Check.mono _ _ _)
   | (with_reducible exact LeO.refl _)
   | (with_reducible exact LeO.none _)
   | (with_reducible refine LeO.ite ?_ ?_)
   | (with_reducible refine LeO.bind ?_ (fun _ => ?_))
   | exact ih0 _ _ _ _
   | exact shelfmarkref01_Num.mono _ _
   | exact shelfmarkref01_Text.mono _ _
   | exact shelfmarkref12_Check.mono _ _ _
   | exact LeO.none _
   | refine LeO.ite ?_ ?_
   | refine LeO.bind ?_ (fun _ => ?_)
theorem shelfmarkref12_Pack.mono : ∀ a0 a1 k, LeO (shelfmarkref12_Pack.f k a0 a1) (shelfmarkref12_Pack.f (k + 1) a0 a1) := by
 intro a0 a1 k
 have ih0 := shelfmarkref12_Pack.mono_l k
 unfold shelfmarkref12_Pack.f
 repeat' first
   | (with_reducible exact ih0 _ _ _ _)
   | (with_reducible exact shelfmarkref01_Num.mono _ _)
   | (with_reducible exact shelfmarkref01_Text.mono _ _)
   | (with_reducible exact shelfmarkref12_Check.mono _ _ _)
   | (with_reducible exact LeO.refl _)
   | (with_reducible exact LeO.none _)
   | (with_reducible refine LeO.ite ?_ ?_)
   | (with_reducible refine LeO.bind ?_ (fun _ => ?_))
   | exact ih0 _ _ _ _
   | exact shelfmarkref01_Num.mono _ _
   | exact shelfmarkref01_Text.mono _ _
   | exact shelfmarkref12_Check.mono _ _ _
   | exact LeO.none _
   | refine LeO.ite ?_ ?_
   | refine LeO.bind ?_ (fun _ => ?_)
def shelfmarkref12_Pack.T4 : Bool × List (List Nat × List Nat) := (true, [([], []), ([0], [0]), ([1], [1]), ([], []), ([3], [3]), ([4], [4]), ([5, 2], [5]), ([2, 6, 6], [2, 6]), ([7, 7, 0, 1, 2, 3, 4, 5, 6, 7], [7])])
def shelfmarkref12_Pack.B4 : List Nat := [0, 1, 3, 0, 8, 24, 63, 127, 255]
theorem shelfmarkref12_Pack.tab4 : rtab .any (opsOf Try.f26 4) = shelfmarkref12_Pack.T4 := by kernel_rfl
theorem shelfmarkref12_Pack.bits4 : waitsOk shelfmarkref12_Pack.T4.2 shelfmarkref12_Pack.B4 = true := by kernel_rfl
set_option maxHeartbeats 8000000 in
set_option maxRecDepth 100000 in
theorem shelfmarkref12_Pack.calls (k : Nat) (a0_0 : Int) (A0_1 : Option Addr) (c0_1 : Nat) (l0_1 : List (S46)) (r1 : ByteArray) (r2 : Int) (w : World) (hr0_1 : Kd.C k46 w A0_1 l0_1.length l0_1) (hc0_1 : l0_1.length ≤ c0_1) (h : shelfmarkref12_Pack.f k a0_0 l0_1 = some (r1, r2)) :
  Calls Try.prog 26 #[.agg #[.int .i64 a0_0, .slice A0_1 l0_1.length c0_1]] w fun e w' => e = .returned (.tuple #[.string r1, .int .i64 r2]) ∧ Below w.heap.size w w' := by
 have hu24 := Try.underlying24
 have HR0_1 := Aside0.mk hr0_1
 have HC0_1 := Aside0.mk hc0_1
 clear hr0_1 hc0_1
 have HB := Aside0.mk (Below.refl w.heap.size w)
 have H : ((shelfmarkref12_Check.f k a0_0 l0_1).bind fun t455 => (if t455 = 0 then ((shelfmarkref01_Num.f k a0_0).bind fun t456 => ((shelfmarkref01_Num.f k (l0_1.length : Int)).bind fun t459 => (if t456.length + t459.length < 140737488355328 then (shelfmarkref12_Pack.l0 k (t456 ++ t459) 0 a0_0 l0_1) else (none)))) else (some ((⟨#[]⟩ : ByteArray), t455)))) = some (r1, r2) := h
 clear h
 replace H := Option.bind_eq_some_iff.mp H
 obtain ⟨t455, A20, H⟩ := H
 replace H : (if t455 = 0 then ((shelfmarkref01_Num.f k a0_0).bind fun t456 => ((shelfmarkref01_Num.f k (l0_1.length : Int)).bind fun t459 => (if t456.length + t459.length < 140737488355328 then (shelfmarkref12_Pack.l0 k (t456 ++ t459) 0 a0_0 l0_1) else (none)))) else (some ((⟨#[]⟩ : ByteArray), t455))) = some (r1, r2) := H
 have A2 := Aside0.mk A20
 clear A20
 by_cases c3 : t455 = 0
 ·rw [if_pos c3] at H
  have c3b0 : (t455 == 0) = true := beq_iff_eq.mpr c3
  have c3b1 : (t455 != 0) = false := bne_eq_false_iff_eq.mpr c3
  clear c3
  replace H := Option.bind_eq_some_iff.mp H
  obtain ⟨t456, A40, H⟩ := H
  replace H : ((shelfmarkref01_Num.f k (l0_1.length : Int)).bind fun t459 => (if t456.length + t459.length < 140737488355328 then (shelfmarkref12_Pack.l0 k (t456 ++ t459) 0 a0_0 l0_1) else (none))) = some (r1, r2) := H
  have A4 := Aside0.mk A40
  clear A40
  replace H := Option.bind_eq_some_iff.mp H
  obtain ⟨t459, A50, H⟩ := H
  replace H : (if t456.length + t459.length < 140737488355328 then (shelfmarkref12_Pack.l0 k (t456 ++ t459) 0 a0_0 l0_1) else (none)) = some (r1, r2) := H
  have A5 := Aside0.mk A50
  clear A50
  by_cases c6 : t456.length + t459.length < 140737488355328
  ·rw [if_pos c6] at H
   have LMc6 := Aside0.mk c6
   clear c6
   obtain ⟨y462, hy462⟩ : ∃ y_ : List Int, y_ = (t456 ++ t459) := ⟨_, rfl⟩
   replace H : (shelfmarkref12_Pack.l0 k y462 0 a0_0 l0_1) = some (r1, r2) := by first | (rw [hy462]; with_reducible exact H) | (have H2_ := (Option.bind_some _ _).symm.trans H; rw [hy462]; with_reducible exact H2_) | (have H2_ := (Option.bind_some _ _).symm.trans H; with_reducible exact H2_) | with_reducible exact H | (rw [hy462]; exact H) | exact H
   have Ny462 := Aside0.mk hy462
   clear hy462
   have H' := Aside0.mk H
   clear H
   go_enter Try.func26, Try.ntmps26
   try go_wp2_with (first | ((with_reducible refine gate_dst (N := 1) rfl ?_); refine box_event ?hg (N := 1) ?hd (cs := #[.int .i64 a0_0, .slice A0_1 l0_1.length c0_1]) (t := 24) ?hr ?_; (case hd => rfl); (case hg => rfl); (case hr => first | (go_simp; done) | (go_simp; rfl)); intro gb454 hg w7 hbox hb; have n0_ := Aside0.mk (below_step (hL HB.out) hb); have n1_ := Aside0.mk (hbox); have n2_ := Above.mk ((by rw [hg]; exact (below_size (hL HB.out)) : w.heap.size ≤ gb454)); have n3_ := Above.mk ((by rw [hg]; exact (below_size (hL HB.out)) : w.heap.size ≤ gb454)); clear HB; have HB := n0_; have BK454 := n1_; have GW454 := n2_; have GE454 := n3_; clear n0_ n1_ n2_ n3_; clear hb hbox hg; have hcz8_0 : w7.cell? ⟨gb454, 0, none⟩ = some (.int .i64 a0_0) := (blk_cell BK454.out 0).trans rfl; have hcz8_1 : w7.cell? ⟨gb454, 1, none⟩ = some (.slice A0_1 l0_1.length c0_1) := (blk_cell BK454.out 1).trans rfl; have hfz8_0 := blk_frozen BK454.out 0; have hfz8_1 := blk_frozen BK454.out 1) | ((with_reducible refine gate_callee (f := 18) rfl ?_); refine goesL_ (some 8) rfl rfl Try.func18 (by kernel_rfl) rfl #[.agg #[.int .i64 a0_0, .slice A0_1 l0_1.length c0_1]] rfl (by (try simp only [List.map_toArray, List.map_cons, List.map_nil]); first | done | rfl | (simp only [List.length_drop, List.length_take]; rfl)) ?_; (with_reducible refine (shelfmarkref12_Check.calls k a0_0 _ _ l0_1 t455 _ ?side1 ?side2 A2.out).mono ?_); (case side1 => repeat (first | exact (Kd.C_below HR0_1.out HB.out) | (with_reducible refine Kd.C_alloc ?_ _) | (with_reducible refine Kd.C_drewN ?_ _) | (with_reducible refine Kd.C_drew ?_))); (case side2 => exact HC0_1.out); rintro e w9 ⟨rfl, hb⟩; refine ⟨_, rfl, ?_⟩; have n0_ := Aside0.mk (blk_below BK454.out hb); have n1_ := Aside0.mk (below_step (hL HB.out) hb); clear BK454; clear HB; have BK454 := n0_; have HB := n1_; clear n0_ n1_; (try clear hb); (try clear hb2); (try clear hk); (try clear hi)))
   have n0_ := Aside0.mk (blk_drew BK454.out)
   have n1_ := Aside0.mk (below_drew1 HB.out)
   clear BK454
   clear HB
   have BK454 := n0_
   have HB := n1_
   clear n0_ n1_
   refine start_ (n := 9) (S := fun w' => w'.cell? ⟨gb454, 0, none⟩ = some (.int .i64 a0_0) ∧ w'.cell? ⟨gb454, 1, none⟩ = some (.slice A0_1 l0_1.length c0_1)) (ds := []) #[false, false, false, false, false, false, false, false, false] (by kernel_rfl) rfl rfl ⟨(blk_cell BK454.out 0).trans rfl, (blk_cell BK454.out 1).trans rfl⟩ (fun hHeld => ?_); refine with_tabW shelfmarkref12_Pack.tab4 shelfmarkref12_Pack.bits4 (fun HT_ HW_ => ?_)
   generalize w9.drew = w10 at BK454 HB hHeld ⊢
   refine pure_ (i := 0) (N := some 12) (v := ?_) (a' := ?_) #[true, false, false, false, false, false, false, false, false] rfl rfl (any_of HT_.out (by kernel_rfl)) (fun _ _ _ h => h) (Or.inl ⟨by rfl, ?_⟩) ?_ ?_
   rotate_left
   ·intro w'
    go_simp
    with_reducible rfl
   rotate_left
   ·simp only [Act.put, List.setIfInBounds_toArray, List.set_cons_zero, List.set_cons_succ, i64_w, i32_w]
    rfl
   refine pure_ (i := 3) (N := some 15) (v := ?_) (a' := ?_) #[true, false, false, true, false, false, false, false, false] rfl rfl (any_of HT_.out (by kernel_rfl)) (fun _ _ _ h => h) (Or.inl ⟨by rfl, ?_⟩) ?_ ?_
   rotate_left
   ·intro w'
    go_simp
    with_reducible rfl
   rotate_left
   ·simp only [Act.put, List.setIfInBounds_toArray, List.set_cons_zero, List.set_cons_succ, i64_w, i32_w]
    rfl
   refine take_ (i := 1) (N := some 13) (v := ?_) (a' := ?_) #[true, true, false, true, false, false, false, false, false] rfl rfl (take_ofW HT_.out HW_.out (by kernel_rfl)) (fun _ _ _ h => h) (Or.inl ⟨by rfl, ?_⟩) hHeld ?_ ?_
   rotate_left
   ·rintro w' ⟨s0, s1⟩
    go_simp
    with_reducible rfl
   rotate_left
   ·simp only [Act.put, List.setIfInBounds_toArray, List.set_cons_zero, List.set_cons_succ, i64_w, i32_w]
    rfl
   refine take_ (i := 4) (N := some 16) (v := ?_) (a' := ?_) #[true, true, false, true, true, false, false, false, false] rfl rfl (take_ofW HT_.out HW_.out (by kernel_rfl)) (fun _ _ _ h => h) (Or.inl ⟨by rfl, ?_⟩) hHeld ?_ ?_
   rotate_left
   ·rintro w' ⟨s0, s1⟩
    go_simp
    with_reducible rfl
   rotate_left
   ·simp only [Act.put, List.setIfInBounds_toArray, List.set_cons_zero, List.set_cons_succ, i64_w, i32_w]
    rfl
   refine pure_ (i := 5) (N := some 17) (v := ?_) (a' := ?_) #[true, true, false, true, true, true, false, false, false] rfl rfl (any_of HT_.out (by kernel_rfl)) (fun _ _ _ h => h) (Or.inl ⟨by rfl, ?_⟩) ?_ ?_
   rotate_left
   ·intro w'
    go_simp
    with_reducible rfl
   rotate_left
   ·simp only [Act.put, List.setIfInBounds_toArray, List.set_cons_zero, List.set_cons_succ, i64_w, i32_w]
    rfl
   refine one_ (i := 2) (N := some 14) #[true, true, true, true, true, true, false, false, false] rfl rfl (one_of HT_.out (by kernel_rfl)) (by decide) (fun K hK => ?_)
   refine goes_ Try.func46 (by kernel_rfl) rfl #[.int .i64 a0_0] (by rfl) rfl rfl (by (try simp only [List.map_toArray, List.map_cons, List.map_nil]); first | done | rfl | (simp only [List.length_drop, List.length_take]; rfl)) ?_
   with_reducible refine (shelfmarkref01_Num.calls k a0_0 t456 _ A4.out).mono ?_
   rintro e w11 ⟨v457, rfl, ho0, hb⟩
   refine ⟨_, rfl, ?_⟩
   have n0_ := Aside0.mk (Kd.R_lower ho0 (below_size (hL HB.out)))
   have n1_ := Aside0.mk (blk_below BK454.out hb)
   have n2_ := Aside0.mk (below_step (hL HB.out) hb)
   clear BK454
   clear HB
   have HO458 := n0_
   have BK454 := n1_
   have HB := n2_
   clear n0_ n1_ n2_
   (try clear hb)
   (try clear hb2)
   (try clear hk)
   (try clear hi)
   (try clear ho0)
   refine hK.out _ _ ⟨(blk_cell BK454.out 0).trans rfl, (blk_cell BK454.out 1).trans rfl⟩ (fun hHeld => ?_)
   clear hK K
   refine norm_ (a' := ?_) ?_ ?_
   rotate_left
   ·show Act.put _ (some 14) _ = _
    simp only [Act.put, List.setIfInBounds_toArray, List.set_cons_zero, List.set_cons_succ, i64_w, i32_w]
    rfl
   refine one_ (i := 6) (N := some 18) #[true, true, true, true, true, true, true, false, false] rfl rfl (one_of HT_.out (by kernel_rfl)) (by decide) (fun K hK => ?_)
   refine goes_ Try.func46 (by kernel_rfl) rfl #[.int .i64 (l0_1.length : Int)] (by rfl) rfl rfl (by (try simp only [List.map_toArray, List.map_cons, List.map_nil]); first | done | rfl | (simp only [List.length_drop, List.length_take]; rfl)) ?_
   with_reducible refine (shelfmarkref01_Num.calls k (l0_1.length : Int) t459 _ A5.out).mono ?_
   rintro e w12 ⟨v460, rfl, ho0, hb⟩
   refine ⟨_, rfl, ?_⟩
   have n0_ := Aside0.mk (Kd.R_elder' (rL HO458.out) (Kd.R_base ho0) hb)
   have n1_ := Aside0.mk (Kd.R_lower (Kd.R_new' ho0 (Kd.R_lt (rL HO458.out))) (below_size (hL HB.out)))
   have n2_ := Aside0.mk (blk_below BK454.out hb)
   have n3_ := Aside0.mk (below_step (hL HB.out) hb)
   clear HO458
   clear BK454
   clear HB
   have HO458 := n0_
   have HO461 := n1_
   have BK454 := n2_
   have HB := n3_
   clear n0_ n1_ n2_ n3_
   (try clear hb)
   (try clear hb2)
   (try clear hk)
   (try clear hi)
   (try clear ho0)
   obtain ⟨Ao14, co14, eo14⟩ := Kd.R_slice HO461.out
   (first | subst eo14 | (injection eo14 with f1_ f2_ f3_; have f4_ := f1_.symm; have f5_ := f3_.symm; clear f1_ f2_ f3_; subst f4_; subst f5_))
   refine hK.out _ _ ⟨(blk_cell BK454.out 0).trans rfl, (blk_cell BK454.out 1).trans rfl⟩ (fun hHeld => ?_)
   clear hK K
   refine norm_ (a' := ?_) ?_ ?_
   rotate_left
   ·show Act.put _ (some 18) _ = _
    simp only [Act.put, List.setIfInBounds_toArray, List.set_cons_zero, List.set_cons_succ, i64_w, i32_w]
    rfl
   refine one_ (i := 7) (N := some 19) #[true, true, true, true, true, true, true, true, false] rfl rfl (one_of HT_.out (by kernel_rfl)) (by decide) (fun K hK => ?_)
   refine Kd.R_append_rows_step (Kd.int .u8) (w0 := w) w.heap.size (by rfl) (.tmp 14) (.tmp 18) 59 5 (.int .u8 0) 1 rfl Try.underlying59 info5 rfl (by decide) (by omega) v457 t456 t459 _ _ _ (fun k_ => some k_ ≠ (.slice Ao14 t459.length co14 : Value).ownBlock) (fun _ => False) rfl rfl ?aO ?aR (fun _ _ h => h) (fun _ h => h.elim) ?aF ?aB ?aS ?aL ?_
   (case aR => repeat (first | exact (Kd.R_reads' HO461.out).2.2 | (with_reducible refine Kd.C_alloc ?_ _) | (with_reducible refine Kd.C_drewN ?_ _) | (with_reducible refine Kd.C_drew ?_)))
   (case aB => exact (hL HB.out))
   (case aF => exact (fun k_ hk => Kd.fresh' (Kd.R_lt (rL HO461.out)) k_ hk))
   (case aO => exact (by (with_reducible repeat (first | apply Kd.R_alloc | apply Kd.R_drewN | apply Kd.R_drew)); exact Kd.R_mono HO458.out (fun _ hk => hk.2)))
   (case aS => exact (below_size (hL HB.out)))
   (case aL => have := LMc6.out; omega)
   intro v463 w13 ho hb hg hat
   rw [← Ny462.out] at ho
   have n0_ := Aside0.mk (blk_grown (g := gb454) (o := .cells #[.int .i64 a0_0, .slice A0_1 l0_1.length c0_1] 24 (0, 0)) (bL BK454.out) hg (Kd.R_ne HO458.out BK454.out (by decide)))
   have n1_ := Aside0.mk (Kd.R_after (ok := (fun _ => True)) (rL HO461.out) hg hat)
   have n2_ := Aside0.mk (hb)
   have n3_ := Aside0.mk (ho)
   clear BK454
   clear HO461
   clear HB
   clear HO458
   have BK454 := n0_
   have HO461 := n1_
   have HB := n2_
   have HO464 := n3_
   clear n0_ n1_ n2_ n3_
   clear ho hb hg hat
   refine hK.out _ _ ⟨(blk_cell BK454.out 0).trans rfl, (blk_cell BK454.out 1).trans rfl⟩ (fun hHeld => ?_)
   clear hK K
   refine norm_ (a' := ?_) ?_ ?_
   rotate_left
   ·show Act.put _ (some 19) _ = _
    simp only [Act.put, List.setIfInBounds_toArray, List.set_cons_zero, List.set_cons_succ, i64_w, i32_w]
    rfl
   refine pure_ (i := 8) (N := some 5) (v := ?_) (a' := ?_) #[true, true, true, true, true, true, true, true, true] rfl rfl (any_of HT_.out (by kernel_rfl)) (fun _ _ _ h => h) (Or.inl ⟨by rfl, ?_⟩) ?_ ?_
   rotate_left
   ·intro w'
    go_simp
    with_reducible rfl
   rotate_left
   ·simp only [Act.put, List.setIfInBounds_toArray, List.set_cons_zero, List.set_cons_succ, i64_w, i32_w]
    rfl
   refine done_ (done_of HT_.out (by kernel_rfl)) ?_
   try go_wp2
   go_loopg [5, 6] k (fun kq v5 v6 w' => ∃ (x5_1 : List Int) (x6_1 : Int), v6 = .int .i64 x6_1 ∧ Aside0 (shelfmarkref12_Pack.l0 kq x5_1 x6_1 a0_0 l0_1 = some (r1, r2)) ∧ Aside0 (kq ≤ k) ∧ Aside0 (Kd.R (Kd.int .u8) 5 w' w.heap.size (fun _ => True) v5 x5_1) ∧ Aside0 (w'.heap[gb454]? = some (.cells #[.int .i64 a0_0, (.slice A0_1 l0_1.length c0_1)] 24 (0, 0))) ∧ Aside0 (Below w.heap.size w w'))
   case atStart => exact ⟨(y462), (0), (by first | rfl | (simp; done) | (simp [*]; done) | (simp [ne_nil_bytes]; done) | (simp [eq_nil_bytes]; done)), H', ⟨Nat.le_refl _⟩, ⟨by (with_reducible repeat (first | apply Kd.R_alloc | apply Kd.R_drewN | apply Kd.R_drew)); exact Kd.R_mono HO464.out (fun _ hk => trivial)⟩, ⟨by exact bL BK454.out⟩, ⟨hL HB.out⟩⟩
   case round =>
    clear H'
    try clear c1
    try clear c2
    try clear p2
    try clear c3
    try clear c3b0
    try clear c3b0z
    try clear c3b1
    try clear c3b1z
    try clear c4
    try clear c6
    try clear hcz8_0
    try clear hcz8_1
    try clear hfz8_0
    try clear hfz8_1
    obtain ⟨x5_1, x6_1, rfl, HA, HK1, HO_5, BK454, HB⟩ := hrel
    cases gk with
    | zero => exact absurd HA.out (by simp [shelfmarkref12_Pack.l0])
    | succ k1 =>
     have H := HA.out
     clear HA
     simp only [shelfmarkref12_Pack.l0] at H
     by_cases c15 : x6_1 < (l0_1.length : Int)
     ·rw [if_pos c15] at H
      have c15b0 : decide (x6_1 < (l0_1.length : Int)) = true := decide_eq_true c15
      clear c15
      by_cases c16 : 0 ≤ x6_1
      ·rw [if_pos c16] at H
       have c16b0 : decide (0 ≤ x6_1) = true := decide_eq_true c16
       clear c16
       replace H := Option.bind_eq_some_iff.mp H
       obtain ⟨t466, A170, H⟩ := H
       replace H : (if x5_1.length + t466.length < 140737488355328 then ((some (x5_1 ++ t466 : List Int)).bind fun y469 => ((shelfmarkref01_Num.f k1 ((rd_T46 l0_1 x6_1).f1)).bind fun t473 => (if y469.length + t473.length < 140737488355328 then (shelfmarkref12_Pack.l0 k1 (y469 ++ t473) (wrap64 (x6_1 + 1)) a0_0 l0_1) else (none)))) else (none)) = some (r1, r2) := H
       have A17 := Aside0.mk A170
       clear A170
       by_cases c18 : x5_1.length + t466.length < 140737488355328
       ·rw [if_pos c18] at H
        have LMc18 := Aside0.mk c18
        clear c18
        obtain ⟨y469, hy469⟩ : ∃ y_ : List Int, y_ = (x5_1 ++ t466) := ⟨_, rfl⟩
        replace H : ((shelfmarkref01_Num.f k1 ((rd_T46 l0_1 x6_1).f1)).bind fun t473 => (if y469.length + t473.length < 140737488355328 then (shelfmarkref12_Pack.l0 k1 (y469 ++ t473) (wrap64 (x6_1 + 1)) a0_0 l0_1) else (none))) = some (r1, r2) := by first | (rw [hy469]; with_reducible exact H) | (have H2_ := (Option.bind_some _ _).symm.trans H; rw [hy469]; with_reducible exact H2_) | (have H2_ := (Option.bind_some _ _).symm.trans H; with_reducible exact H2_) | with_reducible exact H | (rw [hy469]; exact H) | exact H
        have Ny469 := Aside0.mk hy469
        clear hy469
        replace H := Option.bind_eq_some_iff.mp H
        obtain ⟨t473, A190, H⟩ := H
        replace H : (if y469.length + t473.length < 140737488355328 then (shelfmarkref12_Pack.l0 k1 (y469 ++ t473) (wrap64 (x6_1 + 1)) a0_0 l0_1) else (none)) = some (r1, r2) := H
        have A19 := Aside0.mk A190
        clear A190
        by_cases c20 : y469.length + t473.length < 140737488355328
        ·rw [if_pos c20] at H
         have LMc20 := Aside0.mk c20
         clear c20
         obtain ⟨y476, hy476⟩ : ∃ y_ : List Int, y_ = (y469 ++ t473) := ⟨_, rfl⟩
         replace H : (shelfmarkref12_Pack.l0 k1 y476 (wrap64 (x6_1 + 1)) a0_0 l0_1) = some (r1, r2) := by first | (rw [hy476]; with_reducible exact H) | (have H2_ := (Option.bind_some _ _).symm.trans H; rw [hy476]; with_reducible exact H2_) | (have H2_ := (Option.bind_some _ _).symm.trans H; with_reducible exact H2_) | with_reducible exact H | (rw [hy476]; exact H) | exact H
         have Ny476 := Aside0.mk hy476
         clear hy476
         have H' := Aside0.mk H
         clear H
         have hcz21_0 : wr.cell? ⟨gb454, 0, none⟩ = some (.int .i64 a0_0) := (blk_cell BK454.out 0).trans rfl
         have hcz21_1 : wr.cell? ⟨gb454, 1, none⟩ = some (.slice A0_1 l0_1.length c0_1) := (blk_cell BK454.out 1).trans rfl
         have hfz21_0 := blk_frozen BK454.out 0
         have hfz21_1 := blk_frozen BK454.out 1
         have p465 : 0 ≤ (x6_1 : Int) := of_decide_eq_true (by first | (with_reducible assumption) | assumption)
         have q465 : x6_1 < (l0_1.length : Int) := of_decide_eq_true (by first | (with_reducible assumption) | assumption)
         obtain ⟨ad465, e465, hx465_0, hx465_1⟩ := at_T46 HR0_1.out x6_1 p465 q465
         cases e465
         replace hx465_0 := (HB.out.cell (World.block_lt_of_cell? w _ hx465_0)).trans hx465_0
         replace hx465_1 := (HB.out.cell (World.block_lt_of_cell? w _ hx465_1)).trans hx465_1
         replace p465 := eq_true p465
         replace q465 := eq_true q465
         go_wp2_with (first | ((with_reducible refine gate_callee (f := 47) rfl ?_); refine goesL_ (some 34) rfl rfl Try.func47 (by kernel_rfl) rfl #[.string ((rd_T46 l0_1 x6_1).f0)] rfl (by (try simp only [List.map_toArray, List.map_cons, List.map_nil]); first | done | rfl | (simp only [List.length_drop, List.length_take]; rfl)) ?_; (with_reducible refine (shelfmarkref01_Text.calls k1 ((rd_T46 l0_1 x6_1).f0) t466 _ A17.out).mono ?_); rintro e w22 ⟨v467, rfl, ho0, hb⟩; refine ⟨_, rfl, ?_⟩; have n0_ := Aside0.mk (Kd.R_elder' (rL HO_5.out) (Kd.R_base ho0) hb); have n1_ := Aside0.mk (Kd.R_lower (Kd.R_new' ho0 (Kd.R_lt (rL HO_5.out))) (below_size (hL HB.out))); have n2_ := Aside0.mk (blk_below BK454.out hb); have n3_ := Aside0.mk (below_step (hL HB.out) hb); clear HO_5; clear BK454; clear HB; have HO_5 := n0_; have HO468 := n1_; have BK454 := n2_; have HB := n3_; clear n0_ n1_ n2_ n3_; (try clear hb); (try clear hb2); (try clear hk); (try clear hi); (try clear ho0); obtain ⟨Ao24, co24, eo24⟩ := Kd.R_slice HO468.out; subst eo24) | ((with_reducible refine gate_builtin (b := .append) (xs := #[.tmp 27, .tmp 34]) rfl ?_); at_builtin; refine Kd.R_append_rows (Kd.int .u8) (w0 := w) w.heap.size rfl (.tmp 27) (.tmp 34) 59 5 (.int .u8 0) 1 rfl Try.underlying59 info5 rfl (by decide) (by omega) u5 x5_1 t466 _ _ _ (fun k_ => some k_ ≠ (.slice Ao24 t466.length co24 : Value).ownBlock) (fun _ => False) rfl rfl ?aO ?aR (fun _ _ h => h) (fun _ h => h.elim) ?aF ?aB ?aS ?aL ?_; (case aR => repeat (first | exact (Kd.R_reads' HO468.out).2.2 | (with_reducible refine Kd.C_alloc ?_ _) | (with_reducible refine Kd.C_drewN ?_ _) | (with_reducible refine Kd.C_drew ?_))); (case aB => exact (hL HB.out)); (case aF => exact (fun k_ hk => Kd.fresh' (Kd.R_lt (rL HO468.out)) k_ hk)); (case aO => exact (by (with_reducible repeat (first | apply Kd.R_alloc | apply Kd.R_drewN | apply Kd.R_drew)); exact Kd.R_mono HO_5.out (fun _ hk => hk.2))); (case aS => exact (below_size (hL HB.out))); (case aL => have := LMc18.out; omega); intro v470 w23 ho hb hg hat; rw [← Ny469.out] at ho; have n0_ := Aside0.mk (blk_grown (g := gb454) (o := .cells #[.int .i64 a0_0, .slice (some ad465) l0_1.length c0_1] 24 (0, 0)) (bL BK454.out) hg (Kd.R_ne HO_5.out BK454.out (by decide))); have n1_ := Aside0.mk (Kd.R_after (ok := (fun _ => True)) (rL HO468.out) hg hat); have n2_ := Aside0.mk (hb); have n3_ := Aside0.mk (ho); clear BK454; clear HO468; clear HB; clear HO_5; have BK454 := n0_; have HO468 := n1_; have HB := n2_; have HO471 := n3_; clear n0_ n1_ n2_ n3_; clear ho hb hg hat; have hcz25_0 : w23.cell? ⟨gb454, 0, none⟩ = some (.int .i64 a0_0) := (blk_cell BK454.out 0).trans rfl; have hcz25_1 : w23.cell? ⟨gb454, 1, none⟩ = some (.slice (some ad465) l0_1.length c0_1) := (blk_cell BK454.out 1).trans rfl; have hfz25_0 := blk_frozen BK454.out 0; have hfz25_1 := blk_frozen BK454.out 1; have p472 : 0 ≤ (x6_1 : Int) := of_decide_eq_true (by first | (with_reducible assumption) | assumption); have q472 : x6_1 < (l0_1.length : Int) := of_decide_eq_true (by first | (with_reducible assumption) | assumption); obtain ⟨ad472, e472, hx472_0, hx472_1⟩ := at_T46 HR0_1.out x6_1 p472 q472; obtain rfl : ad465 = ad472 := (by injection e472); replace hx472_0 := (HB.out.cell (World.block_lt_of_cell? w _ hx472_0)).trans hx472_0; replace hx472_1 := (HB.out.cell (World.block_lt_of_cell? w _ hx472_1)).trans hx472_1; replace p472 := eq_true p472; replace q472 := eq_true q472) | ((with_reducible refine gate_callee (f := 46) rfl ?_); refine goesL_ (some 43) rfl rfl Try.func46 (by kernel_rfl) rfl #[.int .i64 ((rd_T46 l0_1 x6_1).f1)] rfl (by (try simp only [List.map_toArray, List.map_cons, List.map_nil]); first | done | rfl | (simp only [List.length_drop, List.length_take]; rfl)) ?_; (with_reducible refine (shelfmarkref01_Num.calls k1 ((rd_T46 l0_1 x6_1).f1) t473 _ A19.out).mono ?_); rintro e w26 ⟨v474, rfl, ho0, hb⟩; refine ⟨_, rfl, ?_⟩; have n0_ := Aside0.mk (Kd.R_elder' (rL HO468.out) (Kd.R_base ho0) hb); have n1_ := Aside0.mk (Kd.R_elder' (rL HO471.out) (Kd.R_base ho0) hb); have n2_ := Aside0.mk (Kd.R_lower (Kd.R_new' (Kd.R_new' ho0 (Kd.R_lt (rL HO468.out))) (Kd.R_lt (rL HO471.out))) (below_size (hL HB.out))); have n3_ := Aside0.mk (blk_below BK454.out hb); have n4_ := Aside0.mk (below_step (hL HB.out) hb); clear HO468; clear HO471; clear BK454; clear HB; have HO468 := n0_; have HO471 := n1_; have HO475 := n2_; have BK454 := n3_; have HB := n4_; clear n0_ n1_ n2_ n3_ n4_; (try clear hb); (try clear hb2); (try clear hk); (try clear hi); (try clear ho0); obtain ⟨Ao28, co28, eo28⟩ := Kd.R_slice HO475.out; subst eo28) | ((with_reducible refine gate_builtin (b := .append) (xs := #[.tmp 36, .tmp 43]) rfl ?_); at_builtin; refine Kd.R_append_rows (Kd.int .u8) (w0 := w) w.heap.size rfl (.tmp 36) (.tmp 43) 59 5 (.int .u8 0) 1 rfl Try.underlying59 info5 rfl (by decide) (by omega) v470 y469 t473 _ _ _ (fun k_ => some k_ ≠ (.slice Ao24 t466.length co24 : Value).ownBlock ∧ some k_ ≠ (.slice Ao28 t473.length co28 : Value).ownBlock) (fun _ => False) rfl rfl ?aO ?aR (fun _ _ h => h) (fun _ h => h.elim) ?aF ?aB ?aS ?aL ?_; (case aR => repeat (first | exact (Kd.R_reads' HO475.out).2.2 | (with_reducible refine Kd.C_alloc ?_ _) | (with_reducible refine Kd.C_drewN ?_ _) | (with_reducible refine Kd.C_drew ?_))); (case aB => exact (hL HB.out)); (case aF => exact (fun k_ hk => ⟨Kd.fresh' (Kd.R_lt (rL HO468.out)) k_ hk, Kd.fresh' (Kd.R_lt (rL HO475.out)) k_ hk⟩)); (case aO => exact (rL HO471.out)); (case aS => exact (below_size (hL HB.out))); (case aL => have := LMc20.out; omega); intro v477 w27 ho hb hg hat; rw [← Ny476.out] at ho; have n0_ := Aside0.mk (blk_grown (g := gb454) (o := .cells #[.int .i64 a0_0, .slice (some ad465) l0_1.length c0_1] 24 (0, 0)) (bL BK454.out) hg (Kd.R_ne HO471.out BK454.out (by decide))); have n1_ := Aside0.mk (Kd.R_after (ok := (fun k_ => some k_ ≠ (.slice Ao28 t473.length co28 : Value).ownBlock)) (by (with_reducible repeat (first | apply Kd.R_alloc | apply Kd.R_drewN | apply Kd.R_drew)); exact Kd.R_mono HO468.out (fun _ hk => ⟨hk.2, hk.1.2⟩)) hg hat); have n2_ := Aside0.mk (Kd.R_after (ok := (fun k_ => some k_ ≠ (.slice Ao24 t466.length co24 : Value).ownBlock)) (by (with_reducible repeat (first | apply Kd.R_alloc | apply Kd.R_drewN | apply Kd.R_drew)); exact Kd.R_mono HO475.out (fun _ hk => ⟨hk.1.2, hk.2⟩)) hg hat); have n3_ := Aside0.mk (hb); have n4_ := Aside0.mk (ho); clear BK454; clear HO468; clear HO475; clear HB; clear HO471; have BK454 := n0_; have HO468 := n1_; have HO475 := n2_; have HB := n3_; have HO478 := n4_; clear n0_ n1_ n2_ n3_ n4_; clear ho hb hg hat))
         go_roundg k1
         case measure => have := HK1.out; omega
         case rel => exact ⟨(y476), (wrap64 (x6_1 + 1)), (by first | rfl | (simp; done) | (simp [*]; done) | (simp [ne_nil_bytes]; done) | (simp [eq_nil_bytes]; done)), H', ⟨by have := HK1.out; omega⟩, ⟨by (with_reducible repeat (first | apply Kd.R_alloc | apply Kd.R_drewN | apply Kd.R_drew)); exact Kd.R_mono HO478.out (fun _ hk => trivial)⟩, ⟨by exact bL BK454.out⟩, ⟨hL HB.out⟩⟩
        ·rw [if_neg c20] at H
         exact absurd H (by simp)
       ·rw [if_neg c18] at H
        exact absurd H (by simp)
      ·rw [if_neg c16] at H
       exact absurd H (by simp)
     ·rw [if_neg c15] at H
      have c15b0 : decide (x6_1 < (l0_1.length : Int)) = false := decide_eq_false c15
      clear c15
      simp only [Option.some.injEq, Prod.mk.injEq] at H
      obtain ⟨rfl, rfl⟩ := H
      have hcz29_0 : wr.cell? ⟨gb454, 0, none⟩ = some (.int .i64 a0_0) := (blk_cell BK454.out 0).trans rfl
      have hcz29_1 : wr.cell? ⟨gb454, 1, none⟩ = some (.slice A0_1 l0_1.length c0_1) := (blk_cell BK454.out 1).trans rfl
      have hfz29_0 := blk_frozen BK454.out 0
      have hfz29_1 := blk_frozen BK454.out 1
      have hcv30 := own_string (P := Try.prog) Try.underlying59 Try.underlying5 Try.underlying9 (Kd.own_of_R HO_5.out)
      go_wp2
      go_ret2
      exact ⟨by first | rfl | (simp [errW_none, errW_some] <;> rfl) | (simp [*, errW_none, errW_some] <;> rfl), hL HB.out⟩
  ·rw [if_neg c6] at H
   exact absurd H (by simp)
 ·rw [if_neg c3] at H
  have c3b0 : (t455 == 0) = false := beq_eq_false_iff_ne.mpr c3
  have c3b1 : (t455 != 0) = true := bne_iff_ne.mpr c3
  simp only [Option.some.injEq, Prod.mk.injEq] at H
  obtain ⟨rfl, rfl⟩ := H
  go_enter Try.func26, Try.ntmps26
  go_wp2_with (first | ((with_reducible refine gate_dst (N := 1) rfl ?_); refine box_event ?hg (N := 1) ?hd (cs := #[.int .i64 a0_0, .slice A0_1 l0_1.length c0_1]) (t := 24) ?hr ?_; (case hd => rfl); (case hg => rfl); (case hr => first | (go_simp; done) | (go_simp; rfl)); intro gb454 hg w31 hbox hb; have n0_ := Aside0.mk (below_step (hL HB.out) hb); have n1_ := Aside0.mk (hbox); have n2_ := Above.mk ((by rw [hg]; exact (below_size (hL HB.out)) : w.heap.size ≤ gb454)); have n3_ := Above.mk ((by rw [hg]; exact (below_size (hL HB.out)) : w.heap.size ≤ gb454)); clear HB; have HB := n0_; have BK454 := n1_; have GW454 := n2_; have GE454 := n3_; clear n0_ n1_ n2_ n3_; clear hb hbox hg; have hcz32_0 : w31.cell? ⟨gb454, 0, none⟩ = some (.int .i64 a0_0) := (blk_cell BK454.out 0).trans rfl; have hcz32_1 : w31.cell? ⟨gb454, 1, none⟩ = some (.slice A0_1 l0_1.length c0_1) := (blk_cell BK454.out 1).trans rfl; have hfz32_0 := blk_frozen BK454.out 0; have hfz32_1 := blk_frozen BK454.out 1) | ((with_reducible refine gate_callee (f := 18) rfl ?_); refine goesL_ (some 8) rfl rfl Try.func18 (by kernel_rfl) rfl #[.agg #[.int .i64 a0_0, .slice A0_1 l0_1.length c0_1]] rfl (by (try simp only [List.map_toArray, List.map_cons, List.map_nil]); first | done | rfl | (simp only [List.length_drop, List.length_take]; rfl)) ?_; (with_reducible refine (shelfmarkref12_Check.calls k a0_0 _ _ l0_1 t455 _ ?side1 ?side2 A2.out).mono ?_); (case side1 => repeat (first | exact (Kd.C_below HR0_1.out HB.out) | (with_reducible refine Kd.C_alloc ?_ _) | (with_reducible refine Kd.C_drewN ?_ _) | (with_reducible refine Kd.C_drew ?_))); (case side2 => exact HC0_1.out); rintro e w33 ⟨rfl, hb⟩; refine ⟨_, rfl, ?_⟩; have n0_ := Aside0.mk (blk_below BK454.out hb); have n1_ := Aside0.mk (below_step (hL HB.out) hb); clear BK454; clear HB; have BK454 := n0_; have HB := n1_; clear n0_ n1_; (try clear hb); (try clear hb2); (try clear hk); (try clear hi)))
  go_ret2
  exact ⟨by first | rfl | (simp [errW_none, errW_some] <;> rfl) | (simp [*, errW_none, errW_some] <;> rfl), hL HB.out⟩

end Go.Proofs.Ytmgjccpolkhhhaa.PAll
