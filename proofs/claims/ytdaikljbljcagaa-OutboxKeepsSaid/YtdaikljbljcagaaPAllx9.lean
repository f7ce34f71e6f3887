-- Written by a program of this session for this claim (mp.py, over the kit's print); Lean checks it.
import Derived.Test.YtdaikljbljcagaaPAllx0
import Derived.Test.YtdaikljbljcagaaPAllx6
import Derived.Test.YtdaikljbljcagaaPAllx7
import Derived.Test.YtdaikljbljcagaaPAllx8
namespace Go.Proofs.Ytdaikljbljcagaa.PAll
open Go.RowKit Go.Proofs.YtdaikljbljcagaaW.PrintWords Go.Proofs.YtdaikljbljcagaaW.PrintLast Go.Proofs.YtdaikljbljcagaaW.PrintMore Go.Proofs.Ytdaikljbljcagaa.Fv Go.Proofs.Ytdaikljbljcagaa.Hl
attribute [local go_sem] max2_int min2_int max_two min_two max_three min_three max_four min_four str_gtr str_leq str_geq cell_set2   -- for this text's walks alone
set_option linter.unusedVariables false
set_option linter.unusedSimpArgs false


/-! ### slices_symMergeCmpFunc_api_Intent_at_outbox_Latest_1: its contract -/
set_option maxHeartbeats 8000000 in
set_option maxRecDepth 100000 in
theorem slices_symMergeCmpFunc_api_Intent_at_outbox_Latest_1.calls (k : Nat) : ∀ (P0_ : Nat → Prop) (u9000_ : Value) (l0 : List (S29)) (a1 : Int) (a2 : Int) (a3 : Int)  (r : List (S29)) (w0 w : World) (hB : Below w0.heap.size w0 w) (ho0 : Kd.R k29 29 w w0.heap.size P0_ u9000_ l0) (h : slices_symMergeCmpFunc_api_Intent_at_outbox_Latest_1.f k l0 a1 a2 a3 = some r),
  Calls Try.prog 72 #[u9000_, .int .i64 a1, .int .i64 a2, .int .i64 a3, .func (.func 30) #[] #[]] w fun e w' => e = .returned (.tuple #[]) ∧ Kd.R k29 29 w' w0.heap.size (fun k_ => (P0_ k_ ∨ w.heap.size ≤ k_)) u9000_ r ∧ Below w0.heap.size w0 w' ∧ Kept w w' (fun k_ => P0_ k_) := by
 induction k using Nat.strongRecOn with
 | _ k ih =>
 intro P0_ u9000_ l0 a1 a2 a3 r w0 w hB ho0 h
 cases k with
 | zero => exact absurd h (by simp [slices_symMergeCmpFunc_api_Intent_at_outbox_Latest_1.f])
 | succ k =>
 simp only [slices_symMergeCmpFunc_api_Intent_at_outbox_Latest_1.f] at h
 have hu29 := Try.underlying29
 have HO0 := Aside0.mk (show Kd.R k29 29 w w0.heap.size (fun k_ => (P0_ k_ ∨ w.heap.size ≤ k_)) u9000_ l0 from Kd.R_mono ho0 (fun k_ hk => (.inl hk)))
 have HK := Aside0.mk (Kept.refl w (fun k_ => P0_ k_))
 have HW0 := Aside0.mk hB.size
 have HB := Aside0.mk hB
 clear hB
 have H : (if (wrap64 (a2 - a1)) = 1 then (slices_symMergeCmpFunc_api_Intent_at_outbox_Latest_1.l0 k l0 a1 a2 a3) else (if (wrap64 (a3 - a2)) = 1 then (slices_symMergeCmpFunc_api_Intent_at_outbox_Latest_1.l2 k l0 a2 a1 a2) else (if a2 > (wrap64 ((IntKind.u64.wrap (wrap64 (a1 + a3))) / 2)) then (slices_symMergeCmpFunc_api_Intent_at_outbox_Latest_1.j4 k l0 a1 a2 a3 (wrap64 ((IntKind.u64.wrap (wrap64 (a1 + a3))) / 2)) (wrap64 ((wrap64 ((IntKind.u64.wrap (wrap64 (a1 + a3))) / 2)) + a2)) (wrap64 ((wrap64 ((wrap64 ((IntKind.u64.wrap (wrap64 (a1 + a3))) / 2)) + a2)) - a3)) (wrap64 ((IntKind.u64.wrap (wrap64 (a1 + a3))) / 2))) else (slices_symMergeCmpFunc_api_Intent_at_outbox_Latest_1.j4 k l0 a1 a2 a3 (wrap64 ((IntKind.u64.wrap (wrap64 (a1 + a3))) / 2)) (wrap64 ((wrap64 ((IntKind.u64.wrap (wrap64 (a1 + a3))) / 2)) + a2)) a1 a2)))) = some r := h
 clear h
 by_cases c6 : (wrap64 (a2 - a1)) = 1
 ·rw [if_pos c6] at H
  have c6b0 : ((wrap64 (a2 - a1)) == 1) = true := beq_iff_eq.mpr c6
  have c6b1 : ((wrap64 (a2 - a1)) != 1) = false := bne_eq_false_iff_eq.mpr c6
  clear c6
  have H' := Aside0.mk H
  clear H
  go_enter Try.func72, Try.ntmps72
  go_wp2
  go_loopg [10, 11] k (fun kq v10 v11 w' => ∃ (x10_1 : Int) (x11_1 : Int), v10 = .int .i64 x10_1 ∧ v11 = .int .i64 x11_1 ∧ Aside0 (slices_symMergeCmpFunc_api_Intent_at_outbox_Latest_1.l0 kq l0 a1 x10_1 x11_1 = some r) ∧ Aside0 (kq ≤ k) ∧ Aside0 (Kd.R k29 29 w' w0.heap.size (fun k_ => (P0_ k_ ∨ w.heap.size ≤ k_)) u9000_ l0) ∧ Aside0 (Kept w w' (fun k_ => P0_ k_)) ∧ Aside0 (Below w0.heap.size w0 w'))
  case atStart => exact ⟨(a2), (a3), (by first | rfl | (simp; done) | (simp [*]; done) | (simp [ne_nil_bytes]; done) | (simp [eq_nil_bytes]; done)), (by first | rfl | (simp; done) | (simp [*]; done) | (simp [ne_nil_bytes]; done) | (simp [eq_nil_bytes]; done)), H', ⟨Nat.le_refl _⟩, ⟨by exact rL HO0.out⟩, ⟨by repeat (first | (with_reducible first | exact HK.out | apply Kept.alloc | apply Kept.drewN | apply Kept.drew) | exact HK.out)⟩, ⟨hL HB.out⟩⟩
  as_aux_lemma =>
   clear H'
   try clear c1
   try clear p2
   try clear c6
   try clear c6b0
   try clear c6b0z
   try clear c6b1
   try clear c6b1z
   try clear p6
   obtain ⟨x10_1, x11_1, rfl, rfl, HA, HK1, HO_0, HK, HB⟩ := hrel
   rcases gk with _ | k1
   ·exact absurd HA.out (by simp [slices_symMergeCmpFunc_api_Intent_at_outbox_Latest_1.l0])
   have H := HA.out
   clear HA
   simp only [slices_symMergeCmpFunc_api_Intent_at_outbox_Latest_1.l0] at H
   by_cases c7 : x10_1 < x11_1
   ·rw [if_pos c7] at H
    have c7b0 : decide (x10_1 < x11_1) = true := decide_eq_true c7
    clear c7
    obtain ⟨ji8, hji8⟩ : ∃ j_ : Int, (wrap64 ((IntKind.u64.wrap (wrap64 (x10_1 + x11_1))) / 2)) = j_ := ⟨_, rfl⟩
    replace H : (if 0 ≤ (ji8) then (if (ji8) < (l0.length : Int) then (if 0 ≤ a1 then (if a1 < (l0.length : Int) then ((outbox_Latest_1_v40.f k1 ((rd_T29 l0 (ji8)).f0) ((rd_T29 l0 (ji8)).f1) ((rd_T29 l0 (ji8)).f2) ((rd_T29 l0 a1).f0) ((rd_T29 l0 a1).f1) ((rd_T29 l0 a1).f2)).bind fun t145 => (if t145 < 0 then (slices_symMergeCmpFunc_api_Intent_at_outbox_Latest_1.l0 k1 l0 a1 (wrap64 ((ji8) + 1)) x11_1) else (slices_symMergeCmpFunc_api_Intent_at_outbox_Latest_1.l0 k1 l0 a1 x10_1 ji8))) else (none)) else (none)) else (none)) else (none)) = some r := by first | (rw [hji8] at H; exact H) | (simp only [hji8] at H ⊢; exact H)
    have hji8w : (IntKind.i64.wrap ((IntKind.u64.wrap (wrap64 (x10_1 + x11_1))) / 2)) = ji8 := (i64_w _).trans hji8
    by_cases c9 : 0 ≤ (ji8)
    rotate_left
    ·rw [if_neg c9] at H
     exact absurd H (by simp)
    rw [if_pos c9] at H
    have c9b0 : decide (0 ≤ (ji8)) = true := decide_eq_true c9
    clear c9
    by_cases c10 : (ji8) < (l0.length : Int)
    rotate_left
    ·rw [if_neg c10] at H
     exact absurd H (by simp)
    rw [if_pos c10] at H
    have c10b0 : decide ((ji8) < (l0.length : Int)) = true := decide_eq_true c10
    clear c10
    by_cases c11 : 0 ≤ a1
    rotate_left
    ·rw [if_neg c11] at H
     exact absurd H (by simp)
    rw [if_pos c11] at H
    have c11b0 : decide (0 ≤ a1) = true := decide_eq_true c11
    clear c11
    by_cases c12 : a1 < (l0.length : Int)
    rotate_left
    ·rw [if_neg c12] at H
     exact absurd H (by simp)
    rw [if_pos c12] at H
    have c12b0 : decide (a1 < (l0.length : Int)) = true := decide_eq_true c12
    clear c12
    replace H := Option.bind_eq_some_iff.mp H
    obtain ⟨t145, A130, H⟩ := H
    replace H : (if t145 < 0 then (slices_symMergeCmpFunc_api_Intent_at_outbox_Latest_1.l0 k1 l0 a1 (wrap64 ((ji8) + 1)) x11_1) else (slices_symMergeCmpFunc_api_Intent_at_outbox_Latest_1.l0 k1 l0 a1 x10_1 ji8)) = some r := H
    have A13 := Aside0.mk A130
    clear A130
    by_cases c14 : t145 < 0
    rotate_left
    ·rw [if_neg c14] at H
     have c14b0 : decide (t145 < 0) = false := decide_eq_false c14
     clear c14
     have H' := Aside0.mk H
     clear H
     try go_wp2
     have n0_ := Aside0.mk (Kd.R_drew HO_0.out)
     have n1_ := Aside0.mk (Kept.drew HK.out)
     have n2_ := Aside0.mk (below_drew1 HB.out)
     clear HO_0
     clear HK
     clear HB
     have HO_0 := n0_
     have HK := n1_
     have HB := n2_
     clear n0_ n1_ n2_
     obtain ⟨Ao19, co19, eo19⟩ := Kd.R_slice HO_0.out
     (first | subst eo19 | (injection eo19 with f1_ f2_ f3_; have f4_ := f1_.symm; have f5_ := f3_.symm; clear f1_ f2_ f3_; subst f4_; subst f5_))
     have p143 : 0 ≤ ((ji8) : Int) := of_decide_eq_true (by first | (with_reducible assumption) | assumption)
     have q143 : (ji8) < (l0.length : Int) := of_decide_eq_true (by first | (with_reducible assumption) | assumption)
     obtain ⟨ad143, e143, hx143_0, hx143_1, hx143_2⟩ := at_T29 (Kd.R_reads' HO_0.out).2.2 (ji8) p143 q143
     cases e143
     replace p143 := eq_true p143
     replace q143 := eq_true q143
     have p144 : 0 ≤ (a1 : Int) := of_decide_eq_true (by first | (with_reducible assumption) | assumption)
     have q144 : a1 < (l0.length : Int) := of_decide_eq_true (by first | (with_reducible assumption) | assumption)
     obtain ⟨ad144, e144, hx144_0, hx144_1, hx144_2⟩ := at_T29 (Kd.R_reads' HO_0.out).2.2 a1 p144 q144
     obtain rfl : ad143 = ad144 := (by injection e144)
     replace p144 := eq_true p144
     replace q144 := eq_true q144
     refine start_ (n := 11) (S := fun w' => w'.cell? (ad143.add (((ji8)).toNat * 3)) = some (.string ((rd_T29 l0 (ji8)).f0)) ∧ w'.cell? ⟨(ad143.add (((ji8)).toNat * 3)).block, (ad143.add (((ji8)).toNat * 3)).off + 1, none⟩ = some (.int .i64 ((rd_T29 l0 (ji8)).f1)) ∧ w'.cell? ⟨(ad143.add (((ji8)).toNat * 3)).block, (ad143.add (((ji8)).toNat * 3)).off + 2, none⟩ = some (.bool ((rd_T29 l0 (ji8)).f2)) ∧ w'.cell? (ad143.add ((a1).toNat * 3)) = some (.string ((rd_T29 l0 a1).f0)) ∧ w'.cell? ⟨(ad143.add ((a1).toNat * 3)).block, (ad143.add ((a1).toNat * 3)).off + 1, none⟩ = some (.int .i64 ((rd_T29 l0 a1).f1)) ∧ w'.cell? ⟨(ad143.add ((a1).toNat * 3)).block, (ad143.add ((a1).toNat * 3)).off + 2, none⟩ = some (.bool ((rd_T29 l0 a1).f2))) (ds := []) #[false, false, false, false, false, false, false, false, false, false, false] (by as_aux_lemma => kernel_rfl) rfl rfl ⟨hx143_0, hx143_1, hx143_2, hx144_0, hx144_1, hx144_2⟩ (fun hHeld => ?_); refine with_tabW slices_symMergeCmpFunc_api_Intent_at_outbox_Latest_1.tab5 slices_symMergeCmpFunc_api_Intent_at_outbox_Latest_1.bits5 (fun HT_ HW_ => ?_)
     generalize wr.drew = w18 at HO_0 HK HB hx143_0 hx143_1 hx143_2 hx144_0 hx144_1 hx144_2 hHeld ⊢
     refine pure_ (i := 0) (N := some 40) (v := ?_) (a' := ?_) #[true, false, false, false, false, false, false, false, false, false, false] rfl rfl (any_of HT_.out (by as_aux_lemma => kernel_rfl)) (fun _ _ _ h => h) (Or.inl ⟨by rfl, ?_⟩) ?_ ?_
     rotate_left
     ·intro w'
      go_simp
      with_reducible rfl
     rotate_left
     ·simp only [Act.put, sT, sZ, sS, i64_w, i32_w]
      rfl
     refine pure_ (i := 1) (N := some 41) (v := ?_) (a' := ?_) #[true, true, false, false, false, false, false, false, false, false, false] rfl rfl (any_of HT_.out (by as_aux_lemma => kernel_rfl)) (fun _ _ _ h => h) (Or.inl ⟨by rfl, ?_⟩) ?_ ?_
     rotate_left
     ·intro w'
      go_simp
      with_reducible rfl
     rotate_left
     ·simp only [Act.put, sT, sZ, sS, i64_w, i32_w]
      rfl
     refine pure_ (i := 2) (N := some 42) (v := ?_) (a' := ?_) #[true, true, true, false, false, false, false, false, false, false, false] rfl rfl (any_of HT_.out (by as_aux_lemma => kernel_rfl)) (fun _ _ _ h => h) (Or.inl ⟨by rfl, ?_⟩) ?_ ?_
     rotate_left
     ·intro w'
      go_simp
      with_reducible rfl
     rotate_left
     ·simp only [Act.put, sT, sZ, sS, i64_w, i32_w]
      rfl
     refine pure_ (i := 3) (N := some 43) (v := ?_) (a' := ?_) #[true, true, true, true, false, false, false, false, false, false, false] rfl rfl (any_of HT_.out (by as_aux_lemma => kernel_rfl)) (fun _ _ _ h => h) (Or.inl ⟨by rfl, ?_⟩) ?_ ?_
     rotate_left
     ·intro w'
      go_simp
      with_reducible rfl
     rotate_left
     ·simp only [Act.put, sT, sZ, sS, i64_w, i32_w]
      rfl
     refine pure_ (i := 5) (N := some 45) (v := ?_) (a' := ?_) #[true, true, true, true, false, true, false, false, false, false, false] rfl rfl (any_of HT_.out (by as_aux_lemma => kernel_rfl)) (fun _ _ _ h => h) (Or.inl ⟨by rfl, ?_⟩) ?_ ?_
     rotate_left
     ·intro w'
      go_simp
      with_reducible rfl
     rotate_left
     ·simp only [Act.put, sT, sZ, sS, i64_w, i32_w]
      rfl
     refine pure_ (i := 6) (N := some 46) (v := ?_) (a' := ?_) #[true, true, true, true, false, true, true, false, false, false, false] rfl rfl (any_of HT_.out (by as_aux_lemma => kernel_rfl)) (fun _ _ _ h => h) (Or.inl ⟨by rfl, ?_⟩) ?_ ?_
     rotate_left
     ·intro w'
      go_simp
      with_reducible rfl
     rotate_left
     ·simp only [Act.put, sT, sZ, sS, i64_w, i32_w]
      rfl
     refine pure_ (i := 7) (N := some 47) (v := ?_) (a' := ?_) #[true, true, true, true, false, true, true, true, false, false, false] rfl rfl (any_of HT_.out (by as_aux_lemma => kernel_rfl)) (fun _ _ _ h => h) (Or.inl ⟨by rfl, ?_⟩) ?_ ?_
     rotate_left
     ·intro w'
      go_simp
      with_reducible rfl
     rotate_left
     ·simp only [Act.put, sT, sZ, sS, i64_w, i32_w]
      rfl
     refine take_ (i := 4) (N := some 44) (v := ?_) (a' := ?_) #[true, true, true, true, true, true, true, true, false, false, false] rfl rfl (take_ofW HT_.out HW_.out (by as_aux_lemma => kernel_rfl)) (fun _ _ _ h => h) (Or.inl ⟨by rfl, ?_⟩) hHeld ?_ ?_
     rotate_left
     ·rintro w' ⟨s0, s1, s2, s3, s4, s5⟩
      go_simp
      with_reducible rfl
     rotate_left
     ·simp only [Act.put, sT, sZ, sS, i64_w, i32_w]
      rfl
     refine take_ (i := 8) (N := some 48) (v := ?_) (a' := ?_) #[true, true, true, true, true, true, true, true, true, false, false] rfl rfl (take_ofW HT_.out HW_.out (by as_aux_lemma => kernel_rfl)) (fun _ _ _ h => h) (Or.inl ⟨by rfl, ?_⟩) hHeld ?_ ?_
     rotate_left
     ·rintro w' ⟨s0, s1, s2, s3, s4, s5⟩
      go_simp
      with_reducible rfl
     rotate_left
     ·simp only [Act.put, sT, sZ, sS, i64_w, i32_w]
      rfl
     refine one_ (i := 9) (N := some 49) #[true, true, true, true, true, true, true, true, true, true, false] rfl rfl (one_of HT_.out (by as_aux_lemma => kernel_rfl)) (by decide) (fun K hK => ?_)
     refine goesV Try.func30 (by as_aux_lemma => kernel_rfl) rfl #[.agg #[.string ((rd_T29 l0 (ji8)).f0), .int .i64 ((rd_T29 l0 (ji8)).f1), .bool ((rd_T29 l0 (ji8)).f2)], .agg #[.string ((rd_T29 l0 a1).f0), .int .i64 ((rd_T29 l0 a1).f1), .bool ((rd_T29 l0 a1).f2)]] (by rfl) rfl rfl (by (try simp only [List.map_toArray, List.map_cons, List.map_nil]); first | done | (simp only [hji8]; rfl) | rfl | (simp only [List.length_drop, List.length_take]; rfl)) ?_
     with_reducible refine (outbox_Latest_1_v40.calls k1 ((rd_T29 l0 (ji8)).f0) ((rd_T29 l0 (ji8)).f1) ((rd_T29 l0 (ji8)).f2) ((rd_T29 l0 a1).f0) ((rd_T29 l0 a1).f1) ((rd_T29 l0 a1).f2) t145 _ A13.out).mono ?_
     rintro e w20 ⟨rfl, hb⟩
     have HS0_ := (hb.cell (World.block_lt_of_cell? _ _ (hHeld.1))).trans (hHeld.1)
     have HS1_ := (hb.cell (World.block_lt_of_cell? _ _ (hHeld.2.1))).trans (hHeld.2.1)
     have HS2_ := (hb.cell (World.block_lt_of_cell? _ _ (hHeld.2.2.1))).trans (hHeld.2.2.1)
     have HS3_ := (hb.cell (World.block_lt_of_cell? _ _ (hHeld.2.2.2.1))).trans (hHeld.2.2.2.1)
     have HS4_ := (hb.cell (World.block_lt_of_cell? _ _ (hHeld.2.2.2.2.1))).trans (hHeld.2.2.2.2.1)
     have HS5_ := (hb.cell (World.block_lt_of_cell? _ _ (hHeld.2.2.2.2.2))).trans (hHeld.2.2.2.2.2)
     refine ⟨_, rfl, ?_⟩
     have n0_ := Aside0.mk (Kd.R_below (rL HO_0.out) hb)
     have n1_ := Aside0.mk (Kept.below (S := (fun k_ => P0_ k_)) (by repeat (first | (with_reducible first | exact HK.out | apply Kept.alloc | apply Kept.drewN | apply Kept.drew) | exact HK.out)) hb)
     have n2_ := Aside0.mk (below_step (hL HB.out) hb)
     clear HO_0
     clear HK
     clear HB
     have HO_0 := n0_
     have HK := n1_
     have HB := n2_
     clear n0_ n1_ n2_
     (try clear hb)
     (try clear hb2)
     (try clear hk)
     (try clear hi)
     refine hK.out _ _ ⟨HS0_, HS1_, HS2_, HS3_, HS4_, HS5_⟩ (fun hHeld => ?_)
     clear hK K
     refine norm_ (a' := ?_) ?_ ?_
     rotate_left
     ·show Act.put _ (some 49) _ = _
      simp only [Act.put, sT, sZ, sS, i64_w, i32_w]
      rfl
     refine pure_ (i := 10) (N := some 50) (v := ?_) (a' := ?_) #[true, true, true, true, true, true, true, true, true, true, true] rfl rfl (any_of HT_.out (by as_aux_lemma => kernel_rfl)) (fun _ _ _ h => h) (Or.inl ⟨by rfl, ?_⟩) ?_ ?_
     rotate_left
     ·intro w'
      go_simp
      with_reducible rfl
     rotate_left
     ·simp only [Act.put, sT, sZ, sS, i64_w, i32_w]
      rfl
     refine done_ (done_of HT_.out (by as_aux_lemma => kernel_rfl)) ?_
     try go_wp2
     go_roundg k1
     case measure => have := HK1.out; omega
     case rel => exact ⟨(x10_1), (ji8), (by first | rfl | (simp; done) | (simp [*]; done) | (simp [ne_nil_bytes]; done) | (simp [eq_nil_bytes]; done)), (by first | rfl | (simp; done) | (simp only [← hji8] <;> (first | rfl | simp)) | (simp [*]; done)), H', ⟨by have := HK1.out; omega⟩, ⟨by exact rL HO_0.out⟩, ⟨by repeat (first | (with_reducible first | exact HK.out | apply Kept.alloc | apply Kept.drewN | apply Kept.drew) | exact HK.out)⟩, ⟨hL HB.out⟩⟩
    rw [if_pos c14] at H
    have c14b0 : decide (t145 < 0) = true := decide_eq_true c14
    clear c14
    have H' := Aside0.mk H
    clear H
    try go_wp2
    have n0_ := Aside0.mk (Kd.R_drew HO_0.out)
    have n1_ := Aside0.mk (Kept.drew HK.out)
    have n2_ := Aside0.mk (below_drew1 HB.out)
    clear HO_0
    clear HK
    clear HB
    have HO_0 := n0_
    have HK := n1_
    have HB := n2_
    clear n0_ n1_ n2_
    obtain ⟨Ao16, co16, eo16⟩ := Kd.R_slice HO_0.out
    (first | subst eo16 | (injection eo16 with f1_ f2_ f3_; have f4_ := f1_.symm; have f5_ := f3_.symm; clear f1_ f2_ f3_; subst f4_; subst f5_))
    have p143 : 0 ≤ ((ji8) : Int) := of_decide_eq_true (by first | (with_reducible assumption) | assumption)
    have q143 : (ji8) < (l0.length : Int) := of_decide_eq_true (by first | (with_reducible assumption) | assumption)
    obtain ⟨ad143, e143, hx143_0, hx143_1, hx143_2⟩ := at_T29 (Kd.R_reads' HO_0.out).2.2 (ji8) p143 q143
    cases e143
    replace p143 := eq_true p143
    replace q143 := eq_true q143
    have p144 : 0 ≤ (a1 : Int) := of_decide_eq_true (by first | (with_reducible assumption) | assumption)
    have q144 : a1 < (l0.length : Int) := of_decide_eq_true (by first | (with_reducible assumption) | assumption)
    obtain ⟨ad144, e144, hx144_0, hx144_1, hx144_2⟩ := at_T29 (Kd.R_reads' HO_0.out).2.2 a1 p144 q144
    obtain rfl : ad143 = ad144 := (by injection e144)
    replace p144 := eq_true p144
    replace q144 := eq_true q144
    refine start_ (n := 11) (S := fun w' => w'.cell? (ad143.add (((ji8)).toNat * 3)) = some (.string ((rd_T29 l0 (ji8)).f0)) ∧ w'.cell? ⟨(ad143.add (((ji8)).toNat * 3)).block, (ad143.add (((ji8)).toNat * 3)).off + 1, none⟩ = some (.int .i64 ((rd_T29 l0 (ji8)).f1)) ∧ w'.cell? ⟨(ad143.add (((ji8)).toNat * 3)).block, (ad143.add (((ji8)).toNat * 3)).off + 2, none⟩ = some (.bool ((rd_T29 l0 (ji8)).f2)) ∧ w'.cell? (ad143.add ((a1).toNat * 3)) = some (.string ((rd_T29 l0 a1).f0)) ∧ w'.cell? ⟨(ad143.add ((a1).toNat * 3)).block, (ad143.add ((a1).toNat * 3)).off + 1, none⟩ = some (.int .i64 ((rd_T29 l0 a1).f1)) ∧ w'.cell? ⟨(ad143.add ((a1).toNat * 3)).block, (ad143.add ((a1).toNat * 3)).off + 2, none⟩ = some (.bool ((rd_T29 l0 a1).f2))) (ds := []) #[false, false, false, false, false, false, false, false, false, false, false] (by as_aux_lemma => kernel_rfl) rfl rfl ⟨hx143_0, hx143_1, hx143_2, hx144_0, hx144_1, hx144_2⟩ (fun hHeld => ?_); refine with_tabW slices_symMergeCmpFunc_api_Intent_at_outbox_Latest_1.tab5 slices_symMergeCmpFunc_api_Intent_at_outbox_Latest_1.bits5 (fun HT_ HW_ => ?_)
    generalize wr.drew = w15 at HO_0 HK HB hx143_0 hx143_1 hx143_2 hx144_0 hx144_1 hx144_2 hHeld ⊢
    refine pure_ (i := 0) (N := some 40) (v := ?_) (a' := ?_) #[true, false, false, false, false, false, false, false, false, false, false] rfl rfl (any_of HT_.out (by as_aux_lemma => kernel_rfl)) (fun _ _ _ h => h) (Or.inl ⟨by rfl, ?_⟩) ?_ ?_
    rotate_left
    ·intro w'
     go_simp
     with_reducible rfl
    rotate_left
    ·simp only [Act.put, sT, sZ, sS, i64_w, i32_w]
     rfl
    refine pure_ (i := 1) (N := some 41) (v := ?_) (a' := ?_) #[true, true, false, false, false, false, false, false, false, false, false] rfl rfl (any_of HT_.out (by as_aux_lemma => kernel_rfl)) (fun _ _ _ h => h) (Or.inl ⟨by rfl, ?_⟩) ?_ ?_
    rotate_left
    ·intro w'
     go_simp
     with_reducible rfl
    rotate_left
    ·simp only [Act.put, sT, sZ, sS, i64_w, i32_w]
     rfl
    refine pure_ (i := 2) (N := some 42) (v := ?_) (a' := ?_) #[true, true, true, false, false, false, false, false, false, false, false] rfl rfl (any_of HT_.out (by as_aux_lemma => kernel_rfl)) (fun _ _ _ h => h) (Or.inl ⟨by rfl, ?_⟩) ?_ ?_
    rotate_left
    ·intro w'
     go_simp
     with_reducible rfl
    rotate_left
    ·simp only [Act.put, sT, sZ, sS, i64_w, i32_w]
     rfl
    refine pure_ (i := 3) (N := some 43) (v := ?_) (a' := ?_) #[true, true, true, true, false, false, false, false, false, false, false] rfl rfl (any_of HT_.out (by as_aux_lemma => kernel_rfl)) (fun _ _ _ h => h) (Or.inl ⟨by rfl, ?_⟩) ?_ ?_
    rotate_left
    ·intro w'
     go_simp
     with_reducible rfl
    rotate_left
    ·simp only [Act.put, sT, sZ, sS, i64_w, i32_w]
     rfl
    refine pure_ (i := 5) (N := some 45) (v := ?_) (a' := ?_) #[true, true, true, true, false, true, false, false, false, false, false] rfl rfl (any_of HT_.out (by as_aux_lemma => kernel_rfl)) (fun _ _ _ h => h) (Or.inl ⟨by rfl, ?_⟩) ?_ ?_
    rotate_left
    ·intro w'
     go_simp
     with_reducible rfl
    rotate_left
    ·simp only [Act.put, sT, sZ, sS, i64_w, i32_w]
     rfl
    refine pure_ (i := 6) (N := some 46) (v := ?_) (a' := ?_) #[true, true, true, true, false, true, true, false, false, false, false] rfl rfl (any_of HT_.out (by as_aux_lemma => kernel_rfl)) (fun _ _ _ h => h) (Or.inl ⟨by rfl, ?_⟩) ?_ ?_
    rotate_left
    ·intro w'
     go_simp
     with_reducible rfl
    rotate_left
    ·simp only [Act.put, sT, sZ, sS, i64_w, i32_w]
     rfl
    refine pure_ (i := 7) (N := some 47) (v := ?_) (a' := ?_) #[true, true, true, true, false, true, true, true, false, false, false] rfl rfl (any_of HT_.out (by as_aux_lemma => kernel_rfl)) (fun _ _ _ h => h) (Or.inl ⟨by rfl, ?_⟩) ?_ ?_
    rotate_left
    ·intro w'
     go_simp
     with_reducible rfl
    rotate_left
    ·simp only [Act.put, sT, sZ, sS, i64_w, i32_w]
     rfl
    refine take_ (i := 4) (N := some 44) (v := ?_) (a' := ?_) #[true, true, true, true, true, true, true, true, false, false, false] rfl rfl (take_ofW HT_.out HW_.out (by as_aux_lemma => kernel_rfl)) (fun _ _ _ h => h) (Or.inl ⟨by rfl, ?_⟩) hHeld ?_ ?_
    rotate_left
    ·rintro w' ⟨s0, s1, s2, s3, s4, s5⟩
     go_simp
     with_reducible rfl
    rotate_left
    ·simp only [Act.put, sT, sZ, sS, i64_w, i32_w]
     rfl
    refine take_ (i := 8) (N := some 48) (v := ?_) (a' := ?_) #[true, true, true, true, true, true, true, true, true, false, false] rfl rfl (take_ofW HT_.out HW_.out (by as_aux_lemma => kernel_rfl)) (fun _ _ _ h => h) (Or.inl ⟨by rfl, ?_⟩) hHeld ?_ ?_
    rotate_left
    ·rintro w' ⟨s0, s1, s2, s3, s4, s5⟩
     go_simp
     with_reducible rfl
    rotate_left
    ·simp only [Act.put, sT, sZ, sS, i64_w, i32_w]
     rfl
    refine one_ (i := 9) (N := some 49) #[true, true, true, true, true, true, true, true, true, true, false] rfl rfl (one_of HT_.out (by as_aux_lemma => kernel_rfl)) (by decide) (fun K hK => ?_)
    refine goesV Try.func30 (by as_aux_lemma => kernel_rfl) rfl #[.agg #[.string ((rd_T29 l0 (ji8)).f0), .int .i64 ((rd_T29 l0 (ji8)).f1), .bool ((rd_T29 l0 (ji8)).f2)], .agg #[.string ((rd_T29 l0 a1).f0), .int .i64 ((rd_T29 l0 a1).f1), .bool ((rd_T29 l0 a1).f2)]] (by rfl) rfl rfl (by (try simp only [List.map_toArray, List.map_cons, List.map_nil]); first | done | (simp only [hji8]; rfl) | rfl | (simp only [List.length_drop, List.length_take]; rfl)) ?_
    with_reducible refine (outbox_Latest_1_v40.calls k1 ((rd_T29 l0 (ji8)).f0) ((rd_T29 l0 (ji8)).f1) ((rd_T29 l0 (ji8)).f2) ((rd_T29 l0 a1).f0) ((rd_T29 l0 a1).f1) ((rd_T29 l0 a1).f2) t145 _ A13.out).mono ?_
    rintro e w17 ⟨rfl, hb⟩
    have HS0_ := (hb.cell (World.block_lt_of_cell? _ _ (hHeld.1))).trans (hHeld.1)
    have HS1_ := (hb.cell (World.block_lt_of_cell? _ _ (hHeld.2.1))).trans (hHeld.2.1)
    have HS2_ := (hb.cell (World.block_lt_of_cell? _ _ (hHeld.2.2.1))).trans (hHeld.2.2.1)
    have HS3_ := (hb.cell (World.block_lt_of_cell? _ _ (hHeld.2.2.2.1))).trans (hHeld.2.2.2.1)
    have HS4_ := (hb.cell (World.block_lt_of_cell? _ _ (hHeld.2.2.2.2.1))).trans (hHeld.2.2.2.2.1)
    have HS5_ := (hb.cell (World.block_lt_of_cell? _ _ (hHeld.2.2.2.2.2))).trans (hHeld.2.2.2.2.2)
    refine ⟨_, rfl, ?_⟩
    have n0_ := Aside0.mk (Kd.R_below (rL HO_0.out) hb)
    have n1_ := Aside0.mk (Kept.below (S := (fun k_ => P0_ k_)) (by repeat (first | (with_reducible first | exact HK.out | apply Kept.alloc | apply Kept.drewN | apply Kept.drew) | exact HK.out)) hb)
    have n2_ := Aside0.mk (below_step (hL HB.out) hb)
    clear HO_0
    clear HK
    clear HB
    have HO_0 := n0_
    have HK := n1_
    have HB := n2_
    clear n0_ n1_ n2_
    (try clear hb)
    (try clear hb2)
    (try clear hk)
    (try clear hi)
    refine hK.out _ _ ⟨HS0_, HS1_, HS2_, HS3_, HS4_, HS5_⟩ (fun hHeld => ?_)
    clear hK K
    refine norm_ (a' := ?_) ?_ ?_
    rotate_left
    ·show Act.put _ (some 49) _ = _
     simp only [Act.put, sT, sZ, sS, i64_w, i32_w]
     rfl
    refine pure_ (i := 10) (N := some 50) (v := ?_) (a' := ?_) #[true, true, true, true, true, true, true, true, true, true, true] rfl rfl (any_of HT_.out (by as_aux_lemma => kernel_rfl)) (fun _ _ _ h => h) (Or.inl ⟨by rfl, ?_⟩) ?_ ?_
    rotate_left
    ·intro w'
     go_simp
     with_reducible rfl
    rotate_left
    ·simp only [Act.put, sT, sZ, sS, i64_w, i32_w]
     rfl
    refine done_ (done_of HT_.out (by as_aux_lemma => kernel_rfl)) ?_
    try go_wp2
    go_roundg k1
    case measure => have := HK1.out; omega
    case rel => exact ⟨(wrap64 ((ji8) + 1)), (x11_1), (by first | rfl | (simp; done) | (simp only [← hji8] <;> (first | rfl | simp)) | (simp [*]; done)), (by first | rfl | (simp; done) | (simp [*]; done) | (simp [ne_nil_bytes]; done) | (simp [eq_nil_bytes]; done)), H', ⟨by have := HK1.out; omega⟩, ⟨by exact rL HO_0.out⟩, ⟨by repeat (first | (with_reducible first | exact HK.out | apply Kept.alloc | apply Kept.drewN | apply Kept.drew) | exact HK.out)⟩, ⟨hL HB.out⟩⟩
   rw [if_neg c7] at H
   have c7b0 : decide (x10_1 < x11_1) = false := decide_eq_false c7
   clear c7
   have H' := Aside0.mk H
   clear H
   go_wp2
   go_loopg [13] k1 (fun kq v13 w' => ∃ (x0_2 : List (S29)) (x13_2 : Int), v13 = .int .i64 x13_2 ∧ Aside0 (slices_symMergeCmpFunc_api_Intent_at_outbox_Latest_1.l1 kq x0_2 x10_1 x13_2 = some r) ∧ Aside0 (kq ≤ k1) ∧ Aside0 (Kd.R k29 29 w' w0.heap.size (fun k_ => (P0_ k_ ∨ w.heap.size ≤ k_)) u9000_ x0_2) ∧ Aside0 (Kept w w' (fun k_ => P0_ k_)) ∧ Aside0 (Below w0.heap.size w0 w'))
   case atStart => exact ⟨(l0), (a1), (by first | rfl | (simp; done) | (simp [*]; done) | (simp [ne_nil_bytes]; done) | (simp [eq_nil_bytes]; done)), H', ⟨Nat.le_refl _⟩, ⟨by exact rL HO_0.out⟩, ⟨by repeat (first | (with_reducible first | exact HK.out | apply Kept.alloc | apply Kept.drewN | apply Kept.drew) | exact HK.out)⟩, ⟨hL HB.out⟩⟩
   as_aux_lemma =>
    clear H'
    try clear c1
    try clear p1
    try clear q1
    try clear hx1
    try clear c2
    try clear p2
    try clear c6
    try clear c6b0
    try clear c6b0z
    try clear c6b1
    try clear c6b1z
    try clear p6
    try clear c7
    try clear c7b0
    try clear c7b0z
    try clear c9
    try clear c9b0
    try clear c9b0z
    try clear c10
    try clear c10b0
    try clear c10b0z
    try clear c11
    try clear c11b0
    try clear c11b0z
    try clear c12
    try clear c12b0
    try clear c12b0z
    try clear c14
    try clear c14b0
    try clear c14b0z
    try clear p14
    try clear q14
    try clear hx14
    try clear c20
    try clear hx143_0
    try clear hx143_1
    try clear hx143_2
    try clear hx144_0
    try clear hx144_1
    try clear hx144_2
    try clear p143
    try clear p144
    try clear p2
    try clear p6
    try clear q143
    try clear q144
    obtain ⟨x0_2, x13_2, rfl, HA, HK2, HO_0, HK, HB⟩ := hrel
    rcases gk with _ | k2
    ·exact absurd HA.out (by simp [slices_symMergeCmpFunc_api_Intent_at_outbox_Latest_1.l1])
    have H := HA.out
    clear HA
    simp only [slices_symMergeCmpFunc_api_Intent_at_outbox_Latest_1.l1] at H
    by_cases c21 : x13_2 < (wrap64 (x10_1 - 1))
    rotate_left
    ·rw [if_neg c21] at H
     have c21b0 : decide (x13_2 < (wrap64 (x10_1 - 1))) = false := decide_eq_false c21
     clear c21
     obtain rfl := Option.some.inj H
     simp only [Option.some.injEq, Prod.mk.injEq] at H
     obtain ⟨rfl⟩ := H
     go_wp2
     first | go_end0 | ((try simp only [Exit.inBlock, Exit.then]); refine bodyPost_ret (results_none rfl _ _ _) rfl ?_)
     exact ⟨by first | rfl | (simp [errW_none, errW_some] <;> rfl) | (simp [*, errW_none, errW_some] <;> rfl), by exact rL HO_0.out, hL HB.out, by repeat (first | (with_reducible first | exact HK.out | apply Kept.alloc | apply Kept.drewN | apply Kept.drew) | exact HK.out)⟩
    rw [if_pos c21] at H
    have c21b0 : decide (x13_2 < (wrap64 (x10_1 - 1))) = true := decide_eq_true c21
    clear c21
    obtain ⟨ji22, hji22⟩ : ∃ j_ : Int, (wrap64 (x13_2 + 1)) = j_ := ⟨_, rfl⟩
    replace H : (if 0 ≤ (ji22) then (if (ji22) < (x0_2.length : Int) then (if 0 ≤ x13_2 then (if x13_2 < (x0_2.length : Int) then (slices_symMergeCmpFunc_api_Intent_at_outbox_Latest_1.l1 k2 ((x0_2.set (x13_2 : Int).toNat (⟨(rd_T29 x0_2 (ji22)).f0, (rd_T29 x0_2 (ji22)).f1, (rd_T29 x0_2 (ji22)).f2⟩ : S29)).set ((ji22) : Int).toNat (⟨(rd_T29 x0_2 x13_2).f0, (rd_T29 x0_2 x13_2).f1, (rd_T29 x0_2 x13_2).f2⟩ : S29)) x10_1 ji22) else (none)) else (none)) else (none)) else (none)) = some r := by first | (rw [hji22] at H; exact H) | (simp only [hji22] at H ⊢; exact H)
    have hji22w : (IntKind.i64.wrap (x13_2 + 1)) = ji22 := (i64_w _).trans hji22
    by_cases c23 : 0 ≤ (ji22)
    rotate_left
    ·rw [if_neg c23] at H
     exact absurd H (by simp)
    rw [if_pos c23] at H
    have c23b0 : decide (0 ≤ (ji22)) = true := decide_eq_true c23
    clear c23
    by_cases c24 : (ji22) < (x0_2.length : Int)
    rotate_left
    ·rw [if_neg c24] at H
     exact absurd H (by simp)
    rw [if_pos c24] at H
    have c24b0 : decide ((ji22) < (x0_2.length : Int)) = true := decide_eq_true c24
    clear c24
    by_cases c25 : 0 ≤ x13_2
    rotate_left
    ·rw [if_neg c25] at H
     exact absurd H (by simp)
    rw [if_pos c25] at H
    have c25b0 : decide (0 ≤ x13_2) = true := decide_eq_true c25
    clear c25
    by_cases c26 : x13_2 < (x0_2.length : Int)
    rotate_left
    ·rw [if_neg c26] at H
     exact absurd H (by simp)
    rw [if_pos c26] at H
    have c26b0 : decide (x13_2 < (x0_2.length : Int)) = true := decide_eq_true c26
    clear c26
    obtain ⟨y148, hy148⟩ : ∃ y_ : List (S29), y_ = (x0_2.set (x13_2 : Int).toNat (⟨(rd_T29 x0_2 (ji22)).f0, (rd_T29 x0_2 (ji22)).f1, (rd_T29 x0_2 (ji22)).f2⟩ : S29)) := ⟨_, rfl⟩
    replace H : (slices_symMergeCmpFunc_api_Intent_at_outbox_Latest_1.l1 k2 (y148.set ((ji22) : Int).toNat (⟨(rd_T29 x0_2 x13_2).f0, (rd_T29 x0_2 x13_2).f1, (rd_T29 x0_2 x13_2).f2⟩ : S29)) x10_1 ji22) = some r := by first | (rw [hy148]; with_reducible exact H) | (have H2_ := (Option.bind_some _ _).symm.trans H; rw [hy148]; with_reducible exact H2_) | (have H2_ := (Option.bind_some _ _).symm.trans H; with_reducible exact H2_) | with_reducible exact H | (rw [hy148]; exact H) | exact H
    have Ny148 := Aside0.mk hy148
    clear hy148
    obtain ⟨y149, hy149⟩ : ∃ y_ : List (S29), y_ = (y148.set ((ji22) : Int).toNat (⟨(rd_T29 x0_2 x13_2).f0, (rd_T29 x0_2 x13_2).f1, (rd_T29 x0_2 x13_2).f2⟩ : S29)) := ⟨_, rfl⟩
    replace H : (slices_symMergeCmpFunc_api_Intent_at_outbox_Latest_1.l1 k2 y149 x10_1 ji22) = some r := by first | (rw [hy149]; with_reducible exact H) | (have H2_ := (Option.bind_some _ _).symm.trans H; rw [hy149]; with_reducible exact H2_) | (have H2_ := (Option.bind_some _ _).symm.trans H; with_reducible exact H2_) | with_reducible exact H | (rw [hy149]; exact H) | exact H
    have Ny149 := Aside0.mk hy149
    clear hy149
    have H' := Aside0.mk H
    clear H
    try go_wp2
    have n0_ := Aside0.mk (Kd.R_drew HO_0.out)
    have n1_ := Aside0.mk (Kept.drew HK.out)
    have n2_ := Aside0.mk (below_drew1 HB.out)
    clear HO_0
    clear HK
    clear HB
    have HO_0 := n0_
    have HK := n1_
    have HB := n2_
    clear n0_ n1_ n2_
    obtain ⟨Ao30, co30, eo30⟩ := Kd.R_slice HO_0.out
    (first | subst eo30 | (injection eo30 with f1_ f2_ f3_; have f4_ := f1_.symm; have f5_ := f3_.symm; clear f1_ f2_ f3_; subst f4_; subst f5_))
    have p146 : 0 ≤ ((ji22) : Int) := of_decide_eq_true (by first | (with_reducible assumption) | assumption)
    have q146 : (ji22) < (x0_2.length : Int) := of_decide_eq_true (by first | (with_reducible assumption) | assumption)
    obtain ⟨ad146, e146, hx146_0, hx146_1, hx146_2⟩ := at_T29 (Kd.R_reads' HO_0.out).2.2 (ji22) p146 q146
    cases e146
    replace p146 := eq_true p146
    replace q146 := eq_true q146
    have p147 : 0 ≤ (x13_2 : Int) := of_decide_eq_true (by first | (with_reducible assumption) | assumption)
    have q147 : x13_2 < (x0_2.length : Int) := of_decide_eq_true (by first | (with_reducible assumption) | assumption)
    obtain ⟨ad147, e147, hx147_0, hx147_1, hx147_2⟩ := at_T29 (Kd.R_reads' HO_0.out).2.2 x13_2 p147 q147
    obtain rfl : ad146 = ad147 := (by injection e147)
    replace p147 := eq_true p147
    replace q147 := eq_true q147
    have p27 : 0 ≤ (x13_2 : Int) := of_decide_eq_true (by first | (with_reducible assumption) | assumption)
    have q27 : (x13_2 : Int) < ((x0_2.length : Int) : Int) := of_decide_eq_true (by first | (with_reducible assumption) | assumption)
    obtain ⟨go27, co27, eo27, gb27, gl27, cl27, HG27⟩ := Kd.R_form HO_0.out (by omega)
    (first | cases eo27 | (injection eo27 with ea_ en_ ec_; (first | subst ea_ | (injection ea_ with ea_; subst ea_)); subst ec_; clear en_))
    have GB27 := Aside0.mk gb27
    have GG27 := Aside0.mk HG27
    clear gb27 gl27 HG27
    have HMgo27 := Aside0.mk (show (P0_ go27 ∨ w.heap.size ≤ go27) from (HO_0.out.1 _ rfl))
    (first | simp only [add_plain] at hx146_0 | skip)
    (first | simp only [add_plain] at hx146_1 | skip)
    (first | simp only [add_plain] at hx146_2 | skip)
    (first | simp only [add_plain] at hx147_0 | skip)
    (first | simp only [add_plain] at hx147_1 | skip)
    (first | simp only [add_plain] at hx147_2 | skip)
    obtain ⟨ce27, hcl27, hM27, hcc27, hfr27⟩ := Kd.R_elem HO_0.out z29 (x13_2 : Int) p27 q27
    obtain rfl := k29_openM hM27
    have hx27_0 : World.cell? _ ⟨go27, (x13_2 : Int).toNat * 3, none⟩ = some (.string ((rd_T29 x0_2 x13_2).f0)) := hcc27 0 _ rfl
    have hx27_1 : World.cell? _ ⟨go27, (x13_2 : Int).toNat * 3 + 1, none⟩ = some (.int .i64 ((rd_T29 x0_2 x13_2).f1)) := hcc27 1 _ rfl
    have hx27_2 : World.cell? _ ⟨go27, (x13_2 : Int).toNat * 3 + 2, none⟩ = some (.bool ((rd_T29 x0_2 x13_2).f2)) := hcc27 2 _ rfl
    have hf27_0 : World.frozen? _ ⟨go27, (x13_2 : Int).toNat * 3, none⟩ = false := hfr27 0
    have hf27_1 : World.frozen? _ ⟨go27, (x13_2 : Int).toNat * 3 + 1, none⟩ = false := hfr27 1
    have hf27_2 : World.frozen? _ ⟨go27, (x13_2 : Int).toNat * 3 + 2, none⟩ = false := hfr27 2
    clear hcl27 hcc27 hfr27 hM27
    replace p27 := eq_true p27
    replace q27 := eq_true q27
    obtain ⟨ce31, hcl31, hM31, hcc31, hfr31⟩ := Kd.R_elem HO_0.out z29 (x13_2 : Int) (of_decide_eq_true (by first | (with_reducible assumption) | assumption)) (by have h_ : (x13_2 : Int) < ((x0_2.length : Int) : Int) := of_decide_eq_true (by first | (with_reducible assumption) | assumption); first | exact h_ | (have e_ := (Kd.R_reads' HO_0.out).1; omega) | simpa using h_)
    obtain rfl := k29_openM hM31
    have HP31 := (Kd.R_seg HO_0.out (x13_2 : Int) (of_decide_eq_true (by first | (with_reducible assumption) | assumption)) (by have h_ : (x13_2 : Int) < ((x0_2.length : Int) : Int) := of_decide_eq_true (by first | (with_reducible assumption) | assumption); first | exact h_ | (have e_ := (Kd.R_reads' HO_0.out).1; omega) | simpa using h_) (seg := [.string ((rd_T29 x0_2 (ji22)).f0), .int .i64 ((rd_T29 x0_2 (ji22)).f1), .bool ((rd_T29 x0_2 (ji22)).f2)]) (j := 0) hcl31 hcc31 (show 3 ≤ 3 from by decide) (x' := (⟨(rd_T29 x0_2 (ji22)).f0, (rd_T29 x0_2 (ji22)).f1, (rd_T29 x0_2 (ji22)).f2⟩ : S29)) (k29_mkM _ _ _ (⟨(rd_T29 x0_2 (ji22)).f0, (rd_T29 x0_2 (ji22)).f1, (rd_T29 x0_2 (ji22)).f2⟩ : S29) ) (fun _ hk => hk)).1
    rw [← Ny148.out] at HP31
    have HQ31 := Aside0.mk HP31
    clear hcl31 hcc31 hfr31 hM31 HP31
    have p28 : 0 ≤ ((ji22) : Int) := of_decide_eq_true (by first | (with_reducible assumption) | assumption)
    have q28 : ((ji22) : Int) < ((x0_2.length : Int) : Int) := of_decide_eq_true (by first | (with_reducible assumption) | assumption)
    obtain ⟨ce28, hcl28, hM28, hcc28, hfr28⟩ := Kd.R_elem HQ31.out z29 ((ji22) : Int) p28 q28
    obtain rfl := k29_openM hM28
    have hx28_0 : World.cell? _ ⟨go27, ((ji22) : Int).toNat * 3, none⟩ = some (.string ((rd_T29 y148 (ji22)).f0)) := hcc28 0 _ rfl
    have hx28_1 : World.cell? _ ⟨go27, ((ji22) : Int).toNat * 3 + 1, none⟩ = some (.int .i64 ((rd_T29 y148 (ji22)).f1)) := hcc28 1 _ rfl
    have hx28_2 : World.cell? _ ⟨go27, ((ji22) : Int).toNat * 3 + 2, none⟩ = some (.bool ((rd_T29 y148 (ji22)).f2)) := hcc28 2 _ rfl
    have hf28_0 : World.frozen? _ ⟨go27, ((ji22) : Int).toNat * 3, none⟩ = false := hfr28 0
    have hf28_1 : World.frozen? _ ⟨go27, ((ji22) : Int).toNat * 3 + 1, none⟩ = false := hfr28 1
    have hf28_2 : World.frozen? _ ⟨go27, ((ji22) : Int).toNat * 3 + 2, none⟩ = false := hfr28 2
    clear hcl28 hcc28 hfr28 hM28
    replace p28 := eq_true p28
    replace q28 := eq_true q28
    obtain ⟨ce32, hcl32, hM32, hcc32, hfr32⟩ := Kd.R_elem HQ31.out z29 ((ji22) : Int) (of_decide_eq_true (by first | (with_reducible assumption) | assumption)) (by have h_ : ((ji22) : Int) < ((x0_2.length : Int) : Int) := of_decide_eq_true (by first | (with_reducible assumption) | assumption); first | exact h_ | (have e_ := (Kd.R_reads' HO_0.out).1; omega) | simpa using h_)
    obtain rfl := k29_openM hM32
    have HP32 := (Kd.R_seg HQ31.out ((ji22) : Int) (of_decide_eq_true (by first | (with_reducible assumption) | assumption)) (by have h_ : ((ji22) : Int) < ((x0_2.length : Int) : Int) := of_decide_eq_true (by first | (with_reducible assumption) | assumption); first | exact h_ | (have e_ := (Kd.R_reads' HO_0.out).1; omega) | simpa using h_) (seg := [.string ((rd_T29 x0_2 x13_2).f0), .int .i64 ((rd_T29 x0_2 x13_2).f1), .bool ((rd_T29 x0_2 x13_2).f2)]) (j := 0) hcl32 hcc32 (show 3 ≤ 3 from by decide) (x' := (⟨(rd_T29 x0_2 x13_2).f0, (rd_T29 x0_2 x13_2).f1, (rd_T29 x0_2 x13_2).f2⟩ : S29)) (k29_mkM _ _ _ (⟨(rd_T29 x0_2 x13_2).f0, (rd_T29 x0_2 x13_2).f1, (rd_T29 x0_2 x13_2).f2⟩ : S29) ) (fun _ hk => hk)).1
    rw [← Ny149.out] at HP32
    have HQ32 := Aside0.mk HP32
    clear hcl32 hcc32 hfr32 hM32 HP32
    (try have hnnA_ : ¬ ((ji22).toNat = (x13_2).toNat) := fun e0_ => (fun e_ => by have h1_ := (show (0 : Int) ≤ x13_2 by first | assumption | (exact of_eq_true (by assumption)) | (exact of_decide_eq_true (by assumption))); have h2_ := (show (0 : Int) ≤ ji22 by first | assumption | (exact of_eq_true (by assumption)) | (exact of_decide_eq_true (by assumption))); have h3_ : x13_2 = ji22 := (by omega); have h4_ := hji22; rw [← h3_] at h4_; unfold wrap64 at h4_; omega) e0_)
    (try simp only [World.frozen?_setCells] at hf27_0)
    (try simp only [World.frozen?_setCells] at hf27_1)
    (try simp only [World.frozen?_setCells] at hf27_2)
    (try simp only [World.frozen?_setCells] at hf28_0)
    (try simp only [World.frozen?_setCells] at hf28_1)
    (try simp only [World.frozen?_setCells] at hf28_2)
    (try have hnnB_ : ¬ ((x13_2).toNat = (ji22).toNat) := fun e_ => hnnA_ e_.symm)
    refine start_ (n := 18) (S := fun w' => w'.cell? ⟨go27, (((ji22)).toNat * 3), none⟩ = some (.string ((rd_T29 x0_2 (ji22)).f0)) ∧ w'.cell? ⟨go27, (((ji22)).toNat * 3) + 1, none⟩ = some (.int .i64 ((rd_T29 x0_2 (ji22)).f1)) ∧ w'.cell? ⟨go27, (((ji22)).toNat * 3) + 2, none⟩ = some (.bool ((rd_T29 x0_2 (ji22)).f2)) ∧ w'.cell? ⟨go27, ((x13_2).toNat * 3), none⟩ = some (.string ((rd_T29 x0_2 x13_2).f0)) ∧ w'.cell? ⟨go27, ((x13_2).toNat * 3) + 1, none⟩ = some (.int .i64 ((rd_T29 x0_2 x13_2).f1)) ∧ w'.cell? ⟨go27, ((x13_2).toNat * 3) + 2, none⟩ = some (.bool ((rd_T29 x0_2 x13_2).f2))) (ds := [15, 17]) #[false, false, false, false, false, false, false, false, false, false, false, false, false, false, false, false, false, false] (by as_aux_lemma => kernel_rfl) rfl rfl ⟨hx146_0, hx146_1, hx146_2, hx147_0, hx147_1, hx147_2⟩ (fun hHeld => ?_); refine with_tabW slices_symMergeCmpFunc_api_Intent_at_outbox_Latest_1.tab11 slices_symMergeCmpFunc_api_Intent_at_outbox_Latest_1.bits11 (fun HT_ HW_ => ?_)
    generalize wr.drew = w29 at HO_0 HK HB GG27 HQ31 HQ32 hf27_0 hf27_1 hf27_2 hf28_0 hf28_1 hf28_2 hx146_0 hx146_1 hx146_2 hx147_0 hx147_1 hx147_2 hx27_0 hx27_1 hx27_2 hx28_0 hx28_1 hx28_2 hHeld ⊢
    refine pure_ (i := 0) (N := some 61) (v := ?_) (a' := ?_) #[true, false, false, false, false, false, false, false, false, false, false, false, false, false, false, false, false, false] rfl rfl (any_of HT_.out (by as_aux_lemma => kernel_rfl)) (fun _ _ _ h => h) (Or.inl ⟨by rfl, ?_⟩) ?_ ?_
    rotate_left
    ·intro w'
     go_simp
     with_reducible rfl
    rotate_left
    ·simp only [Act.put, sT, sZ, sS, i64_w, i32_w]
     rfl
    refine pure_ (i := 1) (N := some 62) (v := ?_) (a' := ?_) #[true, true, false, false, false, false, false, false, false, false, false, false, false, false, false, false, false, false] rfl rfl (any_of HT_.out (by as_aux_lemma => kernel_rfl)) (fun _ _ _ h => h) (Or.inl ⟨by rfl, ?_⟩) ?_ ?_
    rotate_left
    ·intro w'
     go_simp
     with_reducible rfl
    rotate_left
    ·simp only [Act.put, sT, sZ, sS, i64_w, i32_w]
     rfl
    refine pure_ (i := 2) (N := some 63) (v := ?_) (a' := ?_) #[true, true, true, false, false, false, false, false, false, false, false, false, false, false, false, false, false, false] rfl rfl (any_of HT_.out (by as_aux_lemma => kernel_rfl)) (fun _ _ _ h => h) (Or.inl ⟨by rfl, ?_⟩) ?_ ?_
    rotate_left
    ·intro w'
     go_simp
     with_reducible rfl
    rotate_left
    ·simp only [Act.put, sT, sZ, sS, i64_w, i32_w]
     rfl
    refine pure_ (i := 3) (N := some 64) (v := ?_) (a' := ?_) #[true, true, true, true, false, false, false, false, false, false, false, false, false, false, false, false, false, false] rfl rfl (any_of HT_.out (by as_aux_lemma => kernel_rfl)) (fun _ _ _ h => h) (Or.inl ⟨by rfl, ?_⟩) ?_ ?_
    rotate_left
    ·intro w'
     go_simp
     with_reducible rfl
    rotate_left
    ·simp only [Act.put, sT, sZ, sS, i64_w, i32_w]
     rfl
    refine pure_ (i := 4) (N := some 65) (v := ?_) (a' := ?_) #[true, true, true, true, true, false, false, false, false, false, false, false, false, false, false, false, false, false] rfl rfl (any_of HT_.out (by as_aux_lemma => kernel_rfl)) (fun _ _ _ h => h) (Or.inl ⟨by rfl, ?_⟩) ?_ ?_
    rotate_left
    ·intro w'
     go_simp
     with_reducible rfl
    rotate_left
    ·simp only [Act.put, sT, sZ, sS, i64_w, i32_w]
     rfl
    refine pure_ (i := 5) (N := some 66) (v := ?_) (a' := ?_) #[true, true, true, true, true, true, false, false, false, false, false, false, false, false, false, false, false, false] rfl rfl (any_of HT_.out (by as_aux_lemma => kernel_rfl)) (fun _ _ _ h => h) (Or.inl ⟨by rfl, ?_⟩) ?_ ?_
    rotate_left
    ·intro w'
     go_simp
     with_reducible rfl
    rotate_left
    ·simp only [Act.put, sT, sZ, sS, i64_w, i32_w]
     rfl
    refine pure_ (i := 6) (N := some 67) (v := ?_) (a' := ?_) #[true, true, true, true, true, true, true, false, false, false, false, false, false, false, false, false, false, false] rfl rfl (any_of HT_.out (by as_aux_lemma => kernel_rfl)) (fun _ _ _ h => h) (Or.inl ⟨by rfl, ?_⟩) ?_ ?_
    rotate_left
    ·intro w'
     go_simp
     with_reducible rfl
    rotate_left
    ·simp only [Act.put, sT, sZ, sS, i64_w, i32_w]
     rfl
    refine pure_ (i := 7) (N := some 68) (v := ?_) (a' := ?_) #[true, true, true, true, true, true, true, true, false, false, false, false, false, false, false, false, false, false] rfl rfl (any_of HT_.out (by as_aux_lemma => kernel_rfl)) (fun _ _ _ h => h) (Or.inl ⟨by rfl, ?_⟩) ?_ ?_
    rotate_left
    ·intro w'
     go_simp
     with_reducible rfl
    rotate_left
    ·simp only [Act.put, sT, sZ, sS, i64_w, i32_w]
     rfl
    refine pure_ (i := 8) (N := some 69) (v := ?_) (a' := ?_) #[true, true, true, true, true, true, true, true, true, false, false, false, false, false, false, false, false, false] rfl rfl (any_of HT_.out (by as_aux_lemma => kernel_rfl)) (fun _ _ _ h => h) (Or.inl ⟨by rfl, ?_⟩) ?_ ?_
    rotate_left
    ·intro w'
     go_simp
     with_reducible rfl
    rotate_left
    ·simp only [Act.put, sT, sZ, sS, i64_w, i32_w]
     rfl
    refine pure_ (i := 10) (N := some 71) (v := ?_) (a' := ?_) #[true, true, true, true, true, true, true, true, true, false, true, false, false, false, false, false, false, false] rfl rfl (any_of HT_.out (by as_aux_lemma => kernel_rfl)) (fun _ _ _ h => h) (Or.inl ⟨by rfl, ?_⟩) ?_ ?_
    rotate_left
    ·intro w'
     go_simp
     with_reducible rfl
    rotate_left
    ·simp only [Act.put, sT, sZ, sS, i64_w, i32_w]
     rfl
    refine pure_ (i := 11) (N := some 72) (v := ?_) (a' := ?_) #[true, true, true, true, true, true, true, true, true, false, true, true, false, false, false, false, false, false] rfl rfl (any_of HT_.out (by as_aux_lemma => kernel_rfl)) (fun _ _ _ h => h) (Or.inl ⟨by rfl, ?_⟩) ?_ ?_
    rotate_left
    ·intro w'
     go_simp
     with_reducible rfl
    rotate_left
    ·simp only [Act.put, sT, sZ, sS, i64_w, i32_w]
     rfl
    refine pure_ (i := 12) (N := some 73) (v := ?_) (a' := ?_) #[true, true, true, true, true, true, true, true, true, false, true, true, true, false, false, false, false, false] rfl rfl (any_of HT_.out (by as_aux_lemma => kernel_rfl)) (fun _ _ _ h => h) (Or.inl ⟨by rfl, ?_⟩) ?_ ?_
    rotate_left
    ·intro w'
     go_simp
     with_reducible rfl
    rotate_left
    ·simp only [Act.put, sT, sZ, sS, i64_w, i32_w]
     rfl
    refine take_ (i := 9) (N := some 70) (v := ?_) (a' := ?_) #[true, true, true, true, true, true, true, true, true, true, true, true, true, false, false, false, false, false] rfl rfl (take_ofW HT_.out HW_.out (by as_aux_lemma => kernel_rfl)) (fun _ _ _ h => h) (Or.inl ⟨by rfl, ?_⟩) hHeld ?_ ?_
    rotate_left
    ·rintro w' ⟨s0, s1, s2, s3, s4, s5⟩
     go_simp
     with_reducible rfl
    rotate_left
    ·simp only [Act.put, sT, sZ, sS, i64_w, i32_w]
     rfl
    refine take_ (i := 13) (N := some 74) (v := ?_) (a' := ?_) #[true, true, true, true, true, true, true, true, true, true, true, true, true, true, false, false, false, false] rfl rfl (take_ofW HT_.out HW_.out (by as_aux_lemma => kernel_rfl)) (fun _ _ _ h => h) (Or.inl ⟨by rfl, ?_⟩) hHeld ?_ ?_
    rotate_left
    ·rintro w' ⟨s0, s1, s2, s3, s4, s5⟩
     go_simp
     with_reducible rfl
    rotate_left
    ·simp only [Act.put, sT, sZ, sS, i64_w, i32_w]
     rfl
    refine pure_ (i := 14) (N := some 75) (v := ?_) (a' := ?_) #[true, true, true, true, true, true, true, true, true, true, true, true, true, true, true, false, false, false] rfl rfl (any_of HT_.out (by as_aux_lemma => kernel_rfl)) (fun _ _ _ h => h) (Or.inl ⟨by rfl, ?_⟩) ?_ ?_
    rotate_left
    ·intro w'
     go_simp
     with_reducible rfl
    rotate_left
    ·simp only [Act.put, sT, sZ, sS, i64_w, i32_w]
     rfl
    refine last_ (i := 15) (N := none) #[true, true, true, true, true, true, true, true, true, true, true, true, true, true, true, true, false, false] rfl rfl (one_of HT_.out (by as_aux_lemma => kernel_rfl)) (by decide) (fun K hK => ?_)
    refine skip_ (w1 := ?_) (by rfl) rfl ?_ ?_
    rotate_left
    ·go_simp
     rfl
    refine hK.out _ _ ?_
    clear hK K
    refine pure_ (i := 16) (N := some 76) (v := ?_) (a' := ?_) #[true, true, true, true, true, true, true, true, true, true, true, true, true, true, true, true, true, false] rfl rfl (any_of HT_.out (by as_aux_lemma => kernel_rfl)) (fun _ _ _ h => h) (Or.inl ⟨by rfl, ?_⟩) ?_ ?_
    rotate_left
    ·intro w'
     go_simp
     with_reducible rfl
    rotate_left
    ·simp only [Act.put, sT, sZ, sS, i64_w, i32_w]
     rfl
    refine last_ (i := 17) (N := none) #[true, true, true, true, true, true, true, true, true, true, true, true, true, true, true, true, true, true] rfl rfl (one_of HT_.out (by as_aux_lemma => kernel_rfl)) (by decide) (fun K hK => ?_)
    refine skip_ (w1 := ?_) (by rfl) rfl ?_ ?_
    rotate_left
    ·go_simp
     rfl
    refine hK.out _ _ ?_
    clear hK K
    refine done_ (done_of HT_.out (by as_aux_lemma => kernel_rfl)) ?_
    try go_wp2
    go_roundg k2
    case measure => have := HK1.out; have := HK2.out; omega
    case rel => exact ⟨(y149), (ji22), (by first | rfl | (simp; done) | (simp only [← hji22] <;> (first | rfl | simp)) | (simp [*]; done)), H', ⟨by have := HK1.out; have := HK2.out; omega⟩, ⟨by exact (by first | exact rL HQ32.out | exact HQ32.out)⟩, ⟨by repeat (first | (with_reducible first | exact HK.out | apply Kept.alloc | apply Kept.drewN | apply Kept.drew | refine Kept.setCell ?_ HMgo27.out _ | refine Kept.setCell ?_ HMgo27.out _ | refine Kept.setCell ?_ HMgo27.out _ | refine Kept.setCell ?_ HMgo27.out _ | refine Kept.setCell ?_ HMgo27.out _ | refine Kept.setCell ?_ HMgo27.out _) | exact HK.out)⟩, ⟨by repeat (first | (with_reducible first | exact HB.out | apply below_alloc | apply pw_below_drewN | apply below_drew1 | refine below_set ?_ GB27.out | refine below_set ?_ GB27.out | refine below_set ?_ GB27.out | refine below_set ?_ GB27.out | refine below_set ?_ GB27.out | refine below_set ?_ GB27.out) | exact HB.out)⟩⟩
 rw [if_neg c6] at H
 have c6b0 : ((wrap64 (a2 - a1)) == 1) = false := beq_eq_false_iff_ne.mpr c6
 have c6b1 : ((wrap64 (a2 - a1)) != 1) = true := bne_iff_ne.mpr c6
 by_cases c33 : (wrap64 (a3 - a2)) = 1
 ·rw [if_pos c33] at H
  have c33b0 : ((wrap64 (a3 - a2)) == 1) = true := beq_iff_eq.mpr c33
  have c33b1 : ((wrap64 (a3 - a2)) != 1) = false := bne_eq_false_iff_eq.mpr c33
  clear c33
  have H' := Aside0.mk H
  clear H
  go_enter Try.func72, Try.ntmps72
  go_wp2
  go_loopg [14, 15] k (fun kq v14 v15 w' => ∃ (x14_1 : Int) (x15_1 : Int), v14 = .int .i64 x14_1 ∧ v15 = .int .i64 x15_1 ∧ Aside0 (slices_symMergeCmpFunc_api_Intent_at_outbox_Latest_1.l2 kq l0 a2 x14_1 x15_1 = some r) ∧ Aside0 (kq ≤ k) ∧ Aside0 (Kd.R k29 29 w' w0.heap.size (fun k_ => (P0_ k_ ∨ w.heap.size ≤ k_)) u9000_ l0) ∧ Aside0 (Kept w w' (fun k_ => P0_ k_)) ∧ Aside0 (Below w0.heap.size w0 w'))
  case atStart => exact ⟨(a1), (a2), (by first | rfl | (simp; done) | (simp [*]; done) | (simp [ne_nil_bytes]; done) | (simp [eq_nil_bytes]; done)), (by first | rfl | (simp; done) | (simp [*]; done) | (simp [ne_nil_bytes]; done) | (simp [eq_nil_bytes]; done)), H', ⟨Nat.le_refl _⟩, ⟨by exact rL HO0.out⟩, ⟨by repeat (first | (with_reducible first | exact HK.out | apply Kept.alloc | apply Kept.drewN | apply Kept.drew) | exact HK.out)⟩, ⟨hL HB.out⟩⟩
  as_aux_lemma =>
   clear H'
   try clear c1
   try clear p1
   try clear q1
   try clear hx1
   try clear c2
   try clear p2
   try clear q2
   try clear hx2
   try clear c3
   try clear c6
   try clear c6b0
   try clear c6b0z
   try clear c6b1
   try clear c6b1z
   try clear p6
   try clear c7
   try clear c7b0
   try clear c7b0z
   try clear c9
   try clear c9b0
   try clear c9b0z
   try clear c10
   try clear c10b0
   try clear c10b0z
   try clear c11
   try clear c11b0
   try clear c11b0z
   try clear c12
   try clear c12b0
   try clear c12b0z
   try clear c14
   try clear c14b0
   try clear c14b0z
   try clear p14
   try clear q14
   try clear hx14
   try clear c20
   try clear c21
   try clear c21b0
   try clear c21b0z
   try clear c23
   try clear c23b0
   try clear c23b0z
   try clear c24
   try clear c24b0
   try clear c24b0z
   try clear c25
   try clear c25b0
   try clear c25b0z
   try clear c26
   try clear c26b0
   try clear c26b0z
   try clear c27
   try clear p27
   try clear q27
   try clear hx27
   try clear hf27
   try clear c28
   try clear p28
   try clear q28
   try clear hx28
   try clear hf28
   try clear c31
   try clear c32
   try clear c33
   try clear c33b0
   try clear c33b0z
   try clear c33b1
   try clear c33b1z
   try clear hx143_0
   try clear hx143_1
   try clear hx143_2
   try clear hx144_0
   try clear hx144_1
   try clear hx144_2
   try clear hx146_0
   try clear hx146_1
   try clear hx146_2
   try clear hx147_0
   try clear hx147_1
   try clear hx147_2
   try clear hx27_0
   try clear hx27_1
   try clear hx27_2
   try clear hx28_0
   try clear hx28_1
   try clear hx28_2
   try clear p1
   try clear p14
   try clear p143
   try clear p144
   try clear p146
   try clear p147
   try clear p2
   try clear p27
   try clear p28
   try clear p6
   try clear q1
   try clear q14
   try clear q143
   try clear q144
   try clear q146
   try clear q147
   try clear q27
   try clear q28
   obtain ⟨x14_1, x15_1, rfl, rfl, HA, HK1, HO_0, HK, HB⟩ := hrel
   rcases gk with _ | k1
   ·exact absurd HA.out (by simp [slices_symMergeCmpFunc_api_Intent_at_outbox_Latest_1.l2])
   have H := HA.out
   clear HA
   simp only [slices_symMergeCmpFunc_api_Intent_at_outbox_Latest_1.l2] at H
   by_cases c34 : x14_1 < x15_1
   ·rw [if_pos c34] at H
    have c34b0 : decide (x14_1 < x15_1) = true := decide_eq_true c34
    clear c34
    by_cases c35 : 0 ≤ a2
    rotate_left
    ·rw [if_neg c35] at H
     exact absurd H (by simp)
    rw [if_pos c35] at H
    have c35b0 : decide (0 ≤ a2) = true := decide_eq_true c35
    clear c35
    by_cases c36 : a2 < (l0.length : Int)
    rotate_left
    ·rw [if_neg c36] at H
     exact absurd H (by simp)
    rw [if_pos c36] at H
    have c36b0 : decide (a2 < (l0.length : Int)) = true := decide_eq_true c36
    clear c36
    obtain ⟨ji37, hji37⟩ : ∃ j_ : Int, (wrap64 ((IntKind.u64.wrap (wrap64 (x14_1 + x15_1))) / 2)) = j_ := ⟨_, rfl⟩
    replace H : (if 0 ≤ (ji37) then (if (ji37) < (l0.length : Int) then ((outbox_Latest_1_v92.f k1 ((rd_T29 l0 a2).f0) ((rd_T29 l0 a2).f1) ((rd_T29 l0 a2).f2) ((rd_T29 l0 (ji37)).f0) ((rd_T29 l0 (ji37)).f1) ((rd_T29 l0 (ji37)).f2)).bind fun t152 => (if t152 < 0 then (slices_symMergeCmpFunc_api_Intent_at_outbox_Latest_1.l2 k1 l0 a2 x14_1 ji37) else (slices_symMergeCmpFunc_api_Intent_at_outbox_Latest_1.l2 k1 l0 a2 (wrap64 ((ji37) + 1)) x15_1))) else (none)) else (none)) = some r := by first | (rw [hji37] at H; exact H) | (simp only [hji37] at H ⊢; exact H)
    have hji37w : (IntKind.i64.wrap ((IntKind.u64.wrap (wrap64 (x14_1 + x15_1))) / 2)) = ji37 := (i64_w _).trans hji37
    by_cases c38 : 0 ≤ (ji37)
    rotate_left
    ·rw [if_neg c38] at H
     exact absurd H (by simp)
    rw [if_pos c38] at H
    have c38b0 : decide (0 ≤ (ji37)) = true := decide_eq_true c38
    clear c38
    by_cases c39 : (ji37) < (l0.length : Int)
    rotate_left
    ·rw [if_neg c39] at H
     exact absurd H (by simp)
    rw [if_pos c39] at H
    have c39b0 : decide ((ji37) < (l0.length : Int)) = true := decide_eq_true c39
    clear c39
    replace H := Option.bind_eq_some_iff.mp H
    obtain ⟨t152, A400, H⟩ := H
    replace H : (if t152 < 0 then (slices_symMergeCmpFunc_api_Intent_at_outbox_Latest_1.l2 k1 l0 a2 x14_1 ji37) else (slices_symMergeCmpFunc_api_Intent_at_outbox_Latest_1.l2 k1 l0 a2 (wrap64 ((ji37) + 1)) x15_1)) = some r := H
    have A40 := Aside0.mk A400
    clear A400
    by_cases c41 : t152 < 0
    ·rw [if_pos c41] at H
     have c41b0 : decide (t152 < 0) = true := decide_eq_true c41
     clear c41
     have H' := Aside0.mk H
     clear H
     try go_wp2
     have n0_ := Aside0.mk (Kd.R_drew HO_0.out)
     have n1_ := Aside0.mk (Kept.drew HK.out)
     have n2_ := Aside0.mk (below_drew1 HB.out)
     clear HO_0
     clear HK
     clear HB
     have HO_0 := n0_
     have HK := n1_
     have HB := n2_
     clear n0_ n1_ n2_
     obtain ⟨Ao43, co43, eo43⟩ := Kd.R_slice HO_0.out
     (first | subst eo43 | (injection eo43 with f1_ f2_ f3_; have f4_ := f1_.symm; have f5_ := f3_.symm; clear f1_ f2_ f3_; subst f4_; subst f5_))
     have p150 : 0 ≤ (a2 : Int) := of_decide_eq_true (by first | (with_reducible assumption) | assumption)
     have q150 : a2 < (l0.length : Int) := of_decide_eq_true (by first | (with_reducible assumption) | assumption)
     obtain ⟨ad150, e150, hx150_0, hx150_1, hx150_2⟩ := at_T29 (Kd.R_reads' HO_0.out).2.2 a2 p150 q150
     cases e150
     replace p150 := eq_true p150
     replace q150 := eq_true q150
     have p151 : 0 ≤ ((ji37) : Int) := of_decide_eq_true (by first | (with_reducible assumption) | assumption)
     have q151 : (ji37) < (l0.length : Int) := of_decide_eq_true (by first | (with_reducible assumption) | assumption)
     obtain ⟨ad151, e151, hx151_0, hx151_1, hx151_2⟩ := at_T29 (Kd.R_reads' HO_0.out).2.2 (ji37) p151 q151
     obtain rfl : ad150 = ad151 := (by injection e151)
     replace p151 := eq_true p151
     replace q151 := eq_true q151
     refine start_ (n := 12) (S := fun w' => w'.cell? (ad150.add ((a2).toNat * 3)) = some (.string ((rd_T29 l0 a2).f0)) ∧ w'.cell? ⟨(ad150.add ((a2).toNat * 3)).block, (ad150.add ((a2).toNat * 3)).off + 1, none⟩ = some (.int .i64 ((rd_T29 l0 a2).f1)) ∧ w'.cell? ⟨(ad150.add ((a2).toNat * 3)).block, (ad150.add ((a2).toNat * 3)).off + 2, none⟩ = some (.bool ((rd_T29 l0 a2).f2)) ∧ w'.cell? (ad150.add (((ji37)).toNat * 3)) = some (.string ((rd_T29 l0 (ji37)).f0)) ∧ w'.cell? ⟨(ad150.add (((ji37)).toNat * 3)).block, (ad150.add (((ji37)).toNat * 3)).off + 1, none⟩ = some (.int .i64 ((rd_T29 l0 (ji37)).f1)) ∧ w'.cell? ⟨(ad150.add (((ji37)).toNat * 3)).block, (ad150.add (((ji37)).toNat * 3)).off + 2, none⟩ = some (.bool ((rd_T29 l0 (ji37)).f2))) (ds := []) #[false, false, false, false, false, false, false, false, false, false, false, false] (by as_aux_lemma => kernel_rfl) rfl rfl ⟨hx150_0, hx150_1, hx150_2, hx151_0, hx151_1, hx151_2⟩ (fun hHeld => ?_); refine with_tabW slices_symMergeCmpFunc_api_Intent_at_outbox_Latest_1.tab17 slices_symMergeCmpFunc_api_Intent_at_outbox_Latest_1.bits17 (fun HT_ HW_ => ?_)
     generalize wr.drew = w42 at HO_0 HK HB hx150_0 hx150_1 hx150_2 hx151_0 hx151_1 hx151_2 hHeld ⊢
     refine pure_ (i := 0) (N := some 92) (v := ?_) (a' := ?_) #[true, false, false, false, false, false, false, false, false, false, false, false] rfl rfl (any_of HT_.out (by as_aux_lemma => kernel_rfl)) (fun _ _ _ h => h) (Or.inl ⟨by rfl, ?_⟩) ?_ ?_
     rotate_left
     ·intro w'
      go_simp
      with_reducible rfl
     rotate_left
     ·simp only [Act.put, sT, sZ, sS, i64_w, i32_w]
      rfl
     refine pure_ (i := 1) (N := some 93) (v := ?_) (a' := ?_) #[true, true, false, false, false, false, false, false, false, false, false, false] rfl rfl (any_of HT_.out (by as_aux_lemma => kernel_rfl)) (fun _ _ _ h => h) (Or.inl ⟨by rfl, ?_⟩) ?_ ?_
     rotate_left
     ·intro w'
      go_simp
      with_reducible rfl
     rotate_left
     ·simp only [Act.put, sT, sZ, sS, i64_w, i32_w]
      rfl
     refine pure_ (i := 2) (N := some 94) (v := ?_) (a' := ?_) #[true, true, true, false, false, false, false, false, false, false, false, false] rfl rfl (any_of HT_.out (by as_aux_lemma => kernel_rfl)) (fun _ _ _ h => h) (Or.inl ⟨by rfl, ?_⟩) ?_ ?_
     rotate_left
     ·intro w'
      go_simp
      with_reducible rfl
     rotate_left
     ·simp only [Act.put, sT, sZ, sS, i64_w, i32_w]
      rfl
     refine pure_ (i := 3) (N := some 95) (v := ?_) (a' := ?_) #[true, true, true, true, false, false, false, false, false, false, false, false] rfl rfl (any_of HT_.out (by as_aux_lemma => kernel_rfl)) (fun _ _ _ h => h) (Or.inl ⟨by rfl, ?_⟩) ?_ ?_
     rotate_left
     ·intro w'
      go_simp
      with_reducible rfl
     rotate_left
     ·simp only [Act.put, sT, sZ, sS, i64_w, i32_w]
      rfl
     refine pure_ (i := 5) (N := some 97) (v := ?_) (a' := ?_) #[true, true, true, true, false, true, false, false, false, false, false, false] rfl rfl (any_of HT_.out (by as_aux_lemma => kernel_rfl)) (fun _ _ _ h => h) (Or.inl ⟨by rfl, ?_⟩) ?_ ?_
     rotate_left
     ·intro w'
      go_simp
      with_reducible rfl
     rotate_left
     ·simp only [Act.put, sT, sZ, sS, i64_w, i32_w]
      rfl
     refine pure_ (i := 6) (N := some 98) (v := ?_) (a' := ?_) #[true, true, true, true, false, true, true, false, false, false, false, false] rfl rfl (any_of HT_.out (by as_aux_lemma => kernel_rfl)) (fun _ _ _ h => h) (Or.inl ⟨by rfl, ?_⟩) ?_ ?_
     rotate_left
     ·intro w'
      go_simp
      with_reducible rfl
     rotate_left
     ·simp only [Act.put, sT, sZ, sS, i64_w, i32_w]
      rfl
     refine pure_ (i := 7) (N := some 99) (v := ?_) (a' := ?_) #[true, true, true, true, false, true, true, true, false, false, false, false] rfl rfl (any_of HT_.out (by as_aux_lemma => kernel_rfl)) (fun _ _ _ h => h) (Or.inl ⟨by rfl, ?_⟩) ?_ ?_
     rotate_left
     ·intro w'
      go_simp
      with_reducible rfl
     rotate_left
     ·simp only [Act.put, sT, sZ, sS, i64_w, i32_w]
      rfl
     refine take_ (i := 4) (N := some 96) (v := ?_) (a' := ?_) #[true, true, true, true, true, true, true, true, false, false, false, false] rfl rfl (take_ofW HT_.out HW_.out (by as_aux_lemma => kernel_rfl)) (fun _ _ _ h => h) (Or.inl ⟨by rfl, ?_⟩) hHeld ?_ ?_
     rotate_left
     ·rintro w' ⟨s0, s1, s2, s3, s4, s5⟩
      go_simp
      with_reducible rfl
     rotate_left
     ·simp only [Act.put, sT, sZ, sS, i64_w, i32_w]
      rfl
     refine take_ (i := 8) (N := some 100) (v := ?_) (a' := ?_) #[true, true, true, true, true, true, true, true, true, false, false, false] rfl rfl (take_ofW HT_.out HW_.out (by as_aux_lemma => kernel_rfl)) (fun _ _ _ h => h) (Or.inl ⟨by rfl, ?_⟩) hHeld ?_ ?_
     rotate_left
     ·rintro w' ⟨s0, s1, s2, s3, s4, s5⟩
      go_simp
      with_reducible rfl
     rotate_left
     ·simp only [Act.put, sT, sZ, sS, i64_w, i32_w]
      rfl
     refine one_ (i := 9) (N := some 101) #[true, true, true, true, true, true, true, true, true, true, false, false] rfl rfl (one_of HT_.out (by as_aux_lemma => kernel_rfl)) (by decide) (fun K hK => ?_)
     refine goesV Try.func30 (by as_aux_lemma => kernel_rfl) rfl #[.agg #[.string ((rd_T29 l0 a2).f0), .int .i64 ((rd_T29 l0 a2).f1), .bool ((rd_T29 l0 a2).f2)], .agg #[.string ((rd_T29 l0 (ji37)).f0), .int .i64 ((rd_T29 l0 (ji37)).f1), .bool ((rd_T29 l0 (ji37)).f2)]] (by rfl) rfl rfl (by (try simp only [List.map_toArray, List.map_cons, List.map_nil]); first | done | (simp only [hji37]; rfl) | rfl | (simp only [List.length_drop, List.length_take]; rfl)) ?_
     with_reducible refine (outbox_Latest_1_v92.calls k1 ((rd_T29 l0 a2).f0) ((rd_T29 l0 a2).f1) ((rd_T29 l0 a2).f2) ((rd_T29 l0 (ji37)).f0) ((rd_T29 l0 (ji37)).f1) ((rd_T29 l0 (ji37)).f2) t152 _ A40.out).mono ?_
     rintro e w44 ⟨rfl, hb⟩
     have HS0_ := (hb.cell (World.block_lt_of_cell? _ _ (hHeld.1))).trans (hHeld.1)
     have HS1_ := (hb.cell (World.block_lt_of_cell? _ _ (hHeld.2.1))).trans (hHeld.2.1)
     have HS2_ := (hb.cell (World.block_lt_of_cell? _ _ (hHeld.2.2.1))).trans (hHeld.2.2.1)
     have HS3_ := (hb.cell (World.block_lt_of_cell? _ _ (hHeld.2.2.2.1))).trans (hHeld.2.2.2.1)
     have HS4_ := (hb.cell (World.block_lt_of_cell? _ _ (hHeld.2.2.2.2.1))).trans (hHeld.2.2.2.2.1)
     have HS5_ := (hb.cell (World.block_lt_of_cell? _ _ (hHeld.2.2.2.2.2))).trans (hHeld.2.2.2.2.2)
     refine ⟨_, rfl, ?_⟩
     have n0_ := Aside0.mk (Kd.R_below (rL HO_0.out) hb)
     have n1_ := Aside0.mk (Kept.below (S := (fun k_ => P0_ k_)) (by repeat (first | (with_reducible first | exact HK.out | apply Kept.alloc | apply Kept.drewN | apply Kept.drew) | exact HK.out)) hb)
     have n2_ := Aside0.mk (below_step (hL HB.out) hb)
     clear HO_0
     clear HK
     clear HB
     have HO_0 := n0_
     have HK := n1_
     have HB := n2_
     clear n0_ n1_ n2_
     (try clear hb)
     (try clear hb2)
     (try clear hk)
     (try clear hi)
     refine hK.out _ _ ⟨HS0_, HS1_, HS2_, HS3_, HS4_, HS5_⟩ (fun hHeld => ?_)
     clear hK K
     refine norm_ (a' := ?_) ?_ ?_
     rotate_left
     ·show Act.put _ (some 101) _ = _
      simp only [Act.put, sT, sZ, sS, i64_w, i32_w]
      rfl
     refine pure_ (i := 10) (N := some 102) (v := ?_) (a' := ?_) #[true, true, true, true, true, true, true, true, true, true, true, false] rfl rfl (any_of HT_.out (by as_aux_lemma => kernel_rfl)) (fun _ _ _ h => h) (Or.inl ⟨by rfl, ?_⟩) ?_ ?_
     rotate_left
     ·intro w'
      go_simp
      with_reducible rfl
     rotate_left
     ·simp only [Act.put, sT, sZ, sS, i64_w, i32_w]
      rfl
     refine pure_ (i := 11) (N := some 103) (v := ?_) (a' := ?_) #[true, true, true, true, true, true, true, true, true, true, true, true] rfl rfl (any_of HT_.out (by as_aux_lemma => kernel_rfl)) (fun _ _ _ h => h) (Or.inl ⟨by rfl, ?_⟩) ?_ ?_
     rotate_left
     ·intro w'
      go_simp
      with_reducible rfl
     rotate_left
     ·simp only [Act.put, sT, sZ, sS, i64_w, i32_w]
      rfl
     refine done_ (done_of HT_.out (by as_aux_lemma => kernel_rfl)) ?_
     try go_wp2
     go_roundg k1
     case measure => have := HK1.out; omega
     case rel => exact ⟨(x14_1), (ji37), (by first | rfl | (simp; done) | (simp [*]; done) | (simp [ne_nil_bytes]; done) | (simp [eq_nil_bytes]; done)), (by first | rfl | (simp; done) | (simp only [← hji37] <;> (first | rfl | simp)) | (simp [*]; done)), H', ⟨by have := HK1.out; omega⟩, ⟨by exact rL HO_0.out⟩, ⟨by repeat (first | (with_reducible first | exact HK.out | apply Kept.alloc | apply Kept.drewN | apply Kept.drew) | exact HK.out)⟩, ⟨hL HB.out⟩⟩
    rw [if_neg c41] at H
    have c41b0 : decide (t152 < 0) = false := decide_eq_false c41
    clear c41
    have H' := Aside0.mk H
    clear H
    try go_wp2
    have n0_ := Aside0.mk (Kd.R_drew HO_0.out)
    have n1_ := Aside0.mk (Kept.drew HK.out)
    have n2_ := Aside0.mk (below_drew1 HB.out)
    clear HO_0
    clear HK
    clear HB
    have HO_0 := n0_
    have HK := n1_
    have HB := n2_
    clear n0_ n1_ n2_
    obtain ⟨Ao46, co46, eo46⟩ := Kd.R_slice HO_0.out
    (first | subst eo46 | (injection eo46 with f1_ f2_ f3_; have f4_ := f1_.symm; have f5_ := f3_.symm; clear f1_ f2_ f3_; subst f4_; subst f5_))
    have p150 : 0 ≤ (a2 : Int) := of_decide_eq_true (by first | (with_reducible assumption) | assumption)
    have q150 : a2 < (l0.length : Int) := of_decide_eq_true (by first | (with_reducible assumption) | assumption)
    obtain ⟨ad150, e150, hx150_0, hx150_1, hx150_2⟩ := at_T29 (Kd.R_reads' HO_0.out).2.2 a2 p150 q150
    cases e150
    replace p150 := eq_true p150
    replace q150 := eq_true q150
    have p151 : 0 ≤ ((ji37) : Int) := of_decide_eq_true (by first | (with_reducible assumption) | assumption)
    have q151 : (ji37) < (l0.length : Int) := of_decide_eq_true (by first | (with_reducible assumption) | assumption)
    obtain ⟨ad151, e151, hx151_0, hx151_1, hx151_2⟩ := at_T29 (Kd.R_reads' HO_0.out).2.2 (ji37) p151 q151
    obtain rfl : ad150 = ad151 := (by injection e151)
    replace p151 := eq_true p151
    replace q151 := eq_true q151
    refine start_ (n := 12) (S := fun w' => w'.cell? (ad150.add ((a2).toNat * 3)) = some (.string ((rd_T29 l0 a2).f0)) ∧ w'.cell? ⟨(ad150.add ((a2).toNat * 3)).block, (ad150.add ((a2).toNat * 3)).off + 1, none⟩ = some (.int .i64 ((rd_T29 l0 a2).f1)) ∧ w'.cell? ⟨(ad150.add ((a2).toNat * 3)).block, (ad150.add ((a2).toNat * 3)).off + 2, none⟩ = some (.bool ((rd_T29 l0 a2).f2)) ∧ w'.cell? (ad150.add (((ji37)).toNat * 3)) = some (.string ((rd_T29 l0 (ji37)).f0)) ∧ w'.cell? ⟨(ad150.add (((ji37)).toNat * 3)).block, (ad150.add (((ji37)).toNat * 3)).off + 1, none⟩ = some (.int .i64 ((rd_T29 l0 (ji37)).f1)) ∧ w'.cell? ⟨(ad150.add (((ji37)).toNat * 3)).block, (ad150.add (((ji37)).toNat * 3)).off + 2, none⟩ = some (.bool ((rd_T29 l0 (ji37)).f2))) (ds := []) #[false, false, false, false, false, false, false, false, false, false, false, false] (by as_aux_lemma => kernel_rfl) rfl rfl ⟨hx150_0, hx150_1, hx150_2, hx151_0, hx151_1, hx151_2⟩ (fun hHeld => ?_); refine with_tabW slices_symMergeCmpFunc_api_Intent_at_outbox_Latest_1.tab17 slices_symMergeCmpFunc_api_Intent_at_outbox_Latest_1.bits17 (fun HT_ HW_ => ?_)
    generalize wr.drew = w45 at HO_0 HK HB hx150_0 hx150_1 hx150_2 hx151_0 hx151_1 hx151_2 hHeld ⊢
    refine pure_ (i := 0) (N := some 92) (v := ?_) (a' := ?_) #[true, false, false, false, false, false, false, false, false, false, false, false] rfl rfl (any_of HT_.out (by as_aux_lemma => kernel_rfl)) (fun _ _ _ h => h) (Or.inl ⟨by rfl, ?_⟩) ?_ ?_
    rotate_left
    ·intro w'
     go_simp
     with_reducible rfl
    rotate_left
    ·simp only [Act.put, sT, sZ, sS, i64_w, i32_w]
     rfl
    refine pure_ (i := 1) (N := some 93) (v := ?_) (a' := ?_) #[true, true, false, false, false, false, false, false, false, false, false, false] rfl rfl (any_of HT_.out (by as_aux_lemma => kernel_rfl)) (fun _ _ _ h => h) (Or.inl ⟨by rfl, ?_⟩) ?_ ?_
    rotate_left
    ·intro w'
     go_simp
     with_reducible rfl
    rotate_left
    ·simp only [Act.put, sT, sZ, sS, i64_w, i32_w]
     rfl
    refine pure_ (i := 2) (N := some 94) (v := ?_) (a' := ?_) #[true, true, true, false, false, false, false, false, false, false, false, false] rfl rfl (any_of HT_.out (by as_aux_lemma => kernel_rfl)) (fun _ _ _ h => h) (Or.inl ⟨by rfl, ?_⟩) ?_ ?_
    rotate_left
    ·intro w'
     go_simp
     with_reducible rfl
    rotate_left
    ·simp only [Act.put, sT, sZ, sS, i64_w, i32_w]
     rfl
    refine pure_ (i := 3) (N := some 95) (v := ?_) (a' := ?_) #[true, true, true, true, false, false, false, false, false, false, false, false] rfl rfl (any_of HT_.out (by as_aux_lemma => kernel_rfl)) (fun _ _ _ h => h) (Or.inl ⟨by rfl, ?_⟩) ?_ ?_
    rotate_left
    ·intro w'
     go_simp
     with_reducible rfl
    rotate_left
    ·simp only [Act.put, sT, sZ, sS, i64_w, i32_w]
     rfl
    refine pure_ (i := 5) (N := some 97) (v := ?_) (a' := ?_) #[true, true, true, true, false, true, false, false, false, false, false, false] rfl rfl (any_of HT_.out (by as_aux_lemma => kernel_rfl)) (fun _ _ _ h => h) (Or.inl ⟨by rfl, ?_⟩) ?_ ?_
    rotate_left
    ·intro w'
     go_simp
     with_reducible rfl
    rotate_left
    ·simp only [Act.put, sT, sZ, sS, i64_w, i32_w]
     rfl
    refine pure_ (i := 6) (N := some 98) (v := ?_) (a' := ?_) #[true, true, true, true, false, true, true, false, false, false, false, false] rfl rfl (any_of HT_.out (by as_aux_lemma => kernel_rfl)) (fun _ _ _ h => h) (Or.inl ⟨by rfl, ?_⟩) ?_ ?_
    rotate_left
    ·intro w'
     go_simp
     with_reducible rfl
    rotate_left
    ·simp only [Act.put, sT, sZ, sS, i64_w, i32_w]
     rfl
    refine pure_ (i := 7) (N := some 99) (v := ?_) (a' := ?_) #[true, true, true, true, false, true, true, true, false, false, false, false] rfl rfl (any_of HT_.out (by as_aux_lemma => kernel_rfl)) (fun _ _ _ h => h) (Or.inl ⟨by rfl, ?_⟩) ?_ ?_
    rotate_left
    ·intro w'
     go_simp
     with_reducible rfl
    rotate_left
    ·simp only [Act.put, sT, sZ, sS, i64_w, i32_w]
     rfl
    refine take_ (i := 4) (N := some 96) (v := ?_) (a' := ?_) #[true, true, true, true, true, true, true, true, false, false, false, false] rfl rfl (take_ofW HT_.out HW_.out (by as_aux_lemma => kernel_rfl)) (fun _ _ _ h => h) (Or.inl ⟨by rfl, ?_⟩) hHeld ?_ ?_
    rotate_left
    ·rintro w' ⟨s0, s1, s2, s3, s4, s5⟩
     go_simp
     with_reducible rfl
    rotate_left
    ·simp only [Act.put, sT, sZ, sS, i64_w, i32_w]
     rfl
    refine take_ (i := 8) (N := some 100) (v := ?_) (a' := ?_) #[true, true, true, true, true, true, true, true, true, false, false, false] rfl rfl (take_ofW HT_.out HW_.out (by as_aux_lemma => kernel_rfl)) (fun _ _ _ h => h) (Or.inl ⟨by rfl, ?_⟩) hHeld ?_ ?_
    rotate_left
    ·rintro w' ⟨s0, s1, s2, s3, s4, s5⟩
     go_simp
     with_reducible rfl
    rotate_left
    ·simp only [Act.put, sT, sZ, sS, i64_w, i32_w]
     rfl
    refine one_ (i := 9) (N := some 101) #[true, true, true, true, true, true, true, true, true, true, false, false] rfl rfl (one_of HT_.out (by as_aux_lemma => kernel_rfl)) (by decide) (fun K hK => ?_)
    refine goesV Try.func30 (by as_aux_lemma => kernel_rfl) rfl #[.agg #[.string ((rd_T29 l0 a2).f0), .int .i64 ((rd_T29 l0 a2).f1), .bool ((rd_T29 l0 a2).f2)], .agg #[.string ((rd_T29 l0 (ji37)).f0), .int .i64 ((rd_T29 l0 (ji37)).f1), .bool ((rd_T29 l0 (ji37)).f2)]] (by rfl) rfl rfl (by (try simp only [List.map_toArray, List.map_cons, List.map_nil]); first | done | (simp only [hji37]; rfl) | rfl | (simp only [List.length_drop, List.length_take]; rfl)) ?_
    with_reducible refine (outbox_Latest_1_v92.calls k1 ((rd_T29 l0 a2).f0) ((rd_T29 l0 a2).f1) ((rd_T29 l0 a2).f2) ((rd_T29 l0 (ji37)).f0) ((rd_T29 l0 (ji37)).f1) ((rd_T29 l0 (ji37)).f2) t152 _ A40.out).mono ?_
    rintro e w47 ⟨rfl, hb⟩
    have HS0_ := (hb.cell (World.block_lt_of_cell? _ _ (hHeld.1))).trans (hHeld.1)
    have HS1_ := (hb.cell (World.block_lt_of_cell? _ _ (hHeld.2.1))).trans (hHeld.2.1)
    have HS2_ := (hb.cell (World.block_lt_of_cell? _ _ (hHeld.2.2.1))).trans (hHeld.2.2.1)
    have HS3_ := (hb.cell (World.block_lt_of_cell? _ _ (hHeld.2.2.2.1))).trans (hHeld.2.2.2.1)
    have HS4_ := (hb.cell (World.block_lt_of_cell? _ _ (hHeld.2.2.2.2.1))).trans (hHeld.2.2.2.2.1)
    have HS5_ := (hb.cell (World.block_lt_of_cell? _ _ (hHeld.2.2.2.2.2))).trans (hHeld.2.2.2.2.2)
    refine ⟨_, rfl, ?_⟩
    have n0_ := Aside0.mk (Kd.R_below (rL HO_0.out) hb)
    have n1_ := Aside0.mk (Kept.below (S := (fun k_ => P0_ k_)) (by repeat (first | (with_reducible first | exact HK.out | apply Kept.alloc | apply Kept.drewN | apply Kept.drew) | exact HK.out)) hb)
    have n2_ := Aside0.mk (below_step (hL HB.out) hb)
    clear HO_0
    clear HK
    clear HB
    have HO_0 := n0_
    have HK := n1_
    have HB := n2_
    clear n0_ n1_ n2_
    (try clear hb)
    (try clear hb2)
    (try clear hk)
    (try clear hi)
    refine hK.out _ _ ⟨HS0_, HS1_, HS2_, HS3_, HS4_, HS5_⟩ (fun hHeld => ?_)
    clear hK K
    refine norm_ (a' := ?_) ?_ ?_
    rotate_left
    ·show Act.put _ (some 101) _ = _
     simp only [Act.put, sT, sZ, sS, i64_w, i32_w]
     rfl
    refine pure_ (i := 10) (N := some 102) (v := ?_) (a' := ?_) #[true, true, true, true, true, true, true, true, true, true, true, false] rfl rfl (any_of HT_.out (by as_aux_lemma => kernel_rfl)) (fun _ _ _ h => h) (Or.inl ⟨by rfl, ?_⟩) ?_ ?_
    rotate_left
    ·intro w'
     go_simp
     with_reducible rfl
    rotate_left
    ·simp only [Act.put, sT, sZ, sS, i64_w, i32_w]
     rfl
    refine pure_ (i := 11) (N := some 103) (v := ?_) (a' := ?_) #[true, true, true, true, true, true, true, true, true, true, true, true] rfl rfl (any_of HT_.out (by as_aux_lemma => kernel_rfl)) (fun _ _ _ h => h) (Or.inl ⟨by rfl, ?_⟩) ?_ ?_
    rotate_left
    ·intro w'
     go_simp
     with_reducible rfl
    rotate_left
    ·simp only [Act.put, sT, sZ, sS, i64_w, i32_w]
     rfl
    refine done_ (done_of HT_.out (by as_aux_lemma => kernel_rfl)) ?_
    try go_wp2
    go_roundg k1
    case measure => have := HK1.out; omega
    case rel => exact ⟨(wrap64 ((ji37) + 1)), (x15_1), (by first | rfl | (simp; done) | (simp only [← hji37] <;> (first | rfl | simp)) | (simp [*]; done)), (by first | rfl | (simp; done) | (simp [*]; done) | (simp [ne_nil_bytes]; done) | (simp [eq_nil_bytes]; done)), H', ⟨by have := HK1.out; omega⟩, ⟨by exact rL HO_0.out⟩, ⟨by repeat (first | (with_reducible first | exact HK.out | apply Kept.alloc | apply Kept.drewN | apply Kept.drew) | exact HK.out)⟩, ⟨hL HB.out⟩⟩
   rw [if_neg c34] at H
   have c34b0 : decide (x14_1 < x15_1) = false := decide_eq_false c34
   clear c34
   have H' := Aside0.mk H
   clear H
   go_wp2
   go_loopg [17] k1 (fun kq v17 w' => ∃ (x0_2 : List (S29)) (x17_2 : Int), v17 = .int .i64 x17_2 ∧ Aside0 (slices_symMergeCmpFunc_api_Intent_at_outbox_Latest_1.l3 kq x0_2 x14_1 x17_2 = some r) ∧ Aside0 (kq ≤ k1) ∧ Aside0 (Kd.R k29 29 w' w0.heap.size (fun k_ => (P0_ k_ ∨ w.heap.size ≤ k_)) u9000_ x0_2) ∧ Aside0 (Kept w w' (fun k_ => P0_ k_)) ∧ Aside0 (Below w0.heap.size w0 w'))
   case atStart => exact ⟨(l0), (a2), (by first | rfl | (simp; done) | (simp [*]; done) | (simp [ne_nil_bytes]; done) | (simp [eq_nil_bytes]; done)), H', ⟨Nat.le_refl _⟩, ⟨by exact rL HO_0.out⟩, ⟨by repeat (first | (with_reducible first | exact HK.out | apply Kept.alloc | apply Kept.drewN | apply Kept.drew) | exact HK.out)⟩, ⟨hL HB.out⟩⟩
   as_aux_lemma =>
    clear H'
    try clear c1
    try clear p1
    try clear q1
    try clear hx1
    try clear c2
    try clear p2
    try clear q2
    try clear hx2
    try clear c3
    try clear c4
    try clear c6
    try clear c6b0
    try clear c6b0z
    try clear c6b1
    try clear c6b1z
    try clear p6
    try clear c7
    try clear c7b0
    try clear c7b0z
    try clear c9
    try clear c9b0
    try clear c9b0z
    try clear c10
    try clear c10b0
    try clear c10b0z
    try clear c11
    try clear c11b0
    try clear c11b0z
    try clear c12
    try clear c12b0
    try clear c12b0z
    try clear c14
    try clear c14b0
    try clear c14b0z
    try clear p14
    try clear q14
    try clear hx14
    try clear p15
    try clear q15
    try clear hx15
    try clear c20
    try clear c21
    try clear c21b0
    try clear c21b0z
    try clear c23
    try clear c23b0
    try clear c23b0z
    try clear c24
    try clear c24b0
    try clear c24b0z
    try clear c25
    try clear c25b0
    try clear c25b0z
    try clear c26
    try clear c26b0
    try clear c26b0z
    try clear c27
    try clear p27
    try clear q27
    try clear hx27
    try clear hf27
    try clear c28
    try clear p28
    try clear q28
    try clear hx28
    try clear hf28
    try clear c31
    try clear c32
    try clear c33
    try clear c33b0
    try clear c33b0z
    try clear c33b1
    try clear c33b1z
    try clear c34
    try clear c34b0
    try clear c34b0z
    try clear c35
    try clear c35b0
    try clear c35b0z
    try clear c36
    try clear c36b0
    try clear c36b0z
    try clear c38
    try clear c38b0
    try clear c38b0z
    try clear c39
    try clear c39b0
    try clear c39b0z
    try clear c41
    try clear c41b0
    try clear c41b0z
    try clear hx143_0
    try clear hx143_1
    try clear hx143_2
    try clear hx144_0
    try clear hx144_1
    try clear hx144_2
    try clear hx146_0
    try clear hx146_1
    try clear hx146_2
    try clear hx147_0
    try clear hx147_1
    try clear hx147_2
    try clear hx150_0
    try clear hx150_1
    try clear hx150_2
    try clear hx151_0
    try clear hx151_1
    try clear hx151_2
    try clear hx27_0
    try clear hx27_1
    try clear hx27_2
    try clear hx28_0
    try clear hx28_1
    try clear hx28_2
    try clear p1
    try clear p14
    try clear p143
    try clear p144
    try clear p146
    try clear p147
    try clear p150
    try clear p151
    try clear p2
    try clear p27
    try clear p28
    try clear p6
    try clear q1
    try clear q14
    try clear q143
    try clear q144
    try clear q146
    try clear q147
    try clear q150
    try clear q151
    try clear q2
    try clear q27
    try clear q28
    obtain ⟨x0_2, x17_2, rfl, HA, HK2, HO_0, HK, HB⟩ := hrel
    rcases gk with _ | k2
    ·exact absurd HA.out (by simp [slices_symMergeCmpFunc_api_Intent_at_outbox_Latest_1.l3])
    have H := HA.out
    clear HA
    simp only [slices_symMergeCmpFunc_api_Intent_at_outbox_Latest_1.l3] at H
    by_cases c48 : x17_2 > x14_1
    rotate_left
    ·rw [if_neg c48] at H
     have c48b0 : decide (x14_1 < x17_2) = false := decide_eq_false c48
     clear c48
     obtain rfl := Option.some.inj H
     simp only [Option.some.injEq, Prod.mk.injEq] at H
     obtain ⟨rfl⟩ := H
     go_wp2
     first | go_end0 | ((try simp only [Exit.inBlock, Exit.then]); refine bodyPost_ret (results_none rfl _ _ _) rfl ?_)
     exact ⟨by first | rfl | (simp [errW_none, errW_some] <;> rfl) | (simp [*, errW_none, errW_some] <;> rfl), by exact rL HO_0.out, hL HB.out, by repeat (first | (with_reducible first | exact HK.out | apply Kept.alloc | apply Kept.drewN | apply Kept.drew) | exact HK.out)⟩
    rw [if_pos c48] at H
    have c48b0 : decide (x14_1 < x17_2) = true := decide_eq_true c48
    clear c48
    obtain ⟨ji49, hji49⟩ : ∃ j_ : Int, (wrap64 (x17_2 - 1)) = j_ := ⟨_, rfl⟩
    replace H : (if 0 ≤ (ji49) then (if (ji49) < (x0_2.length : Int) then (if 0 ≤ x17_2 then (if x17_2 < (x0_2.length : Int) then (slices_symMergeCmpFunc_api_Intent_at_outbox_Latest_1.l3 k2 ((x0_2.set (x17_2 : Int).toNat (⟨(rd_T29 x0_2 (ji49)).f0, (rd_T29 x0_2 (ji49)).f1, (rd_T29 x0_2 (ji49)).f2⟩ : S29)).set ((ji49) : Int).toNat (⟨(rd_T29 x0_2 x17_2).f0, (rd_T29 x0_2 x17_2).f1, (rd_T29 x0_2 x17_2).f2⟩ : S29)) x14_1 ji49) else (none)) else (none)) else (none)) else (none)) = some r := by first | (rw [hji49] at H; exact H) | (simp only [hji49] at H ⊢; exact H)
    have hji49w : (IntKind.i64.wrap (x17_2 - 1)) = ji49 := (i64_w _).trans hji49
    by_cases c50 : 0 ≤ (ji49)
    rotate_left
    ·rw [if_neg c50] at H
     exact absurd H (by simp)
    rw [if_pos c50] at H
    have c50b0 : decide (0 ≤ (ji49)) = true := decide_eq_true c50
    clear c50
    by_cases c51 : (ji49) < (x0_2.length : Int)
    rotate_left
    ·rw [if_neg c51] at H
     exact absurd H (by simp)
    rw [if_pos c51] at H
    have c51b0 : decide ((ji49) < (x0_2.length : Int)) = true := decide_eq_true c51
    clear c51
    by_cases c52 : 0 ≤ x17_2
    rotate_left
    ·rw [if_neg c52] at H
     exact absurd H (by simp)
    rw [if_pos c52] at H
    have c52b0 : decide (0 ≤ x17_2) = true := decide_eq_true c52
    clear c52
    by_cases c53 : x17_2 < (x0_2.length : Int)
    rotate_left
    ·rw [if_neg c53] at H
     exact absurd H (by simp)
    rw [if_pos c53] at H
    have c53b0 : decide (x17_2 < (x0_2.length : Int)) = true := decide_eq_true c53
    clear c53
    obtain ⟨y155, hy155⟩ : ∃ y_ : List (S29), y_ = (x0_2.set (x17_2 : Int).toNat (⟨(rd_T29 x0_2 (ji49)).f0, (rd_T29 x0_2 (ji49)).f1, (rd_T29 x0_2 (ji49)).f2⟩ : S29)) := ⟨_, rfl⟩
    replace H : (slices_symMergeCmpFunc_api_Intent_at_outbox_Latest_1.l3 k2 (y155.set ((ji49) : Int).toNat (⟨(rd_T29 x0_2 x17_2).f0, (rd_T29 x0_2 x17_2).f1, (rd_T29 x0_2 x17_2).f2⟩ : S29)) x14_1 ji49) = some r := by first | (rw [hy155]; with_reducible exact H) | (have H2_ := (Option.bind_some _ _).symm.trans H; rw [hy155]; with_reducible exact H2_) | (have H2_ := (Option.bind_some _ _).symm.trans H; with_reducible exact H2_) | with_reducible exact H | (rw [hy155]; exact H) | exact H
    have Ny155 := Aside0.mk hy155
    clear hy155
    obtain ⟨y156, hy156⟩ : ∃ y_ : List (S29), y_ = (y155.set ((ji49) : Int).toNat (⟨(rd_T29 x0_2 x17_2).f0, (rd_T29 x0_2 x17_2).f1, (rd_T29 x0_2 x17_2).f2⟩ : S29)) := ⟨_, rfl⟩
    replace H : (slices_symMergeCmpFunc_api_Intent_at_outbox_Latest_1.l3 k2 y156 x14_1 ji49) = some r := by first | (rw [hy156]; with_reducible exact H) | (have H2_ := (Option.bind_some _ _).symm.trans H; rw [hy156]; with_reducible exact H2_) | (have H2_ := (Option.bind_some _ _).symm.trans H; with_reducible exact H2_) | with_reducible exact H | (rw [hy156]; exact H) | exact H
    have Ny156 := Aside0.mk hy156
    clear hy156
    have H' := Aside0.mk H
    clear H
    try go_wp2
    have n0_ := Aside0.mk (Kd.R_drew HO_0.out)
    have n1_ := Aside0.mk (Kept.drew HK.out)
    have n2_ := Aside0.mk (below_drew1 HB.out)
    clear HO_0
    clear HK
    clear HB
    have HO_0 := n0_
    have HK := n1_
    have HB := n2_
    clear n0_ n1_ n2_
    obtain ⟨Ao57, co57, eo57⟩ := Kd.R_slice HO_0.out
    (first | subst eo57 | (injection eo57 with f1_ f2_ f3_; have f4_ := f1_.symm; have f5_ := f3_.symm; clear f1_ f2_ f3_; subst f4_; subst f5_))
    have p153 : 0 ≤ ((ji49) : Int) := of_decide_eq_true (by first | (with_reducible assumption) | assumption)
    have q153 : (ji49) < (x0_2.length : Int) := of_decide_eq_true (by first | (with_reducible assumption) | assumption)
    obtain ⟨ad153, e153, hx153_0, hx153_1, hx153_2⟩ := at_T29 (Kd.R_reads' HO_0.out).2.2 (ji49) p153 q153
    cases e153
    replace p153 := eq_true p153
    replace q153 := eq_true q153
    have p154 : 0 ≤ (x17_2 : Int) := of_decide_eq_true (by first | (with_reducible assumption) | assumption)
    have q154 : x17_2 < (x0_2.length : Int) := of_decide_eq_true (by first | (with_reducible assumption) | assumption)
    obtain ⟨ad154, e154, hx154_0, hx154_1, hx154_2⟩ := at_T29 (Kd.R_reads' HO_0.out).2.2 x17_2 p154 q154
    obtain rfl : ad153 = ad154 := (by injection e154)
    replace p154 := eq_true p154
    replace q154 := eq_true q154
    have p54 : 0 ≤ (x17_2 : Int) := of_decide_eq_true (by first | (with_reducible assumption) | assumption)
    have q54 : (x17_2 : Int) < ((x0_2.length : Int) : Int) := of_decide_eq_true (by first | (with_reducible assumption) | assumption)
    obtain ⟨go54, co54, eo54, gb54, gl54, cl54, HG54⟩ := Kd.R_form HO_0.out (by omega)
    (first | cases eo54 | (injection eo54 with ea_ en_ ec_; (first | subst ea_ | (injection ea_ with ea_; subst ea_)); subst ec_; clear en_))
    have GB54 := Aside0.mk gb54
    have GG54 := Aside0.mk HG54
    clear gb54 gl54 HG54
    have HMgo54 := Aside0.mk (show (P0_ go54 ∨ w.heap.size ≤ go54) from (HO_0.out.1 _ rfl))
    (first | simp only [add_plain] at hx153_0 | skip)
    (first | simp only [add_plain] at hx153_1 | skip)
    (first | simp only [add_plain] at hx153_2 | skip)
    (first | simp only [add_plain] at hx154_0 | skip)
    (first | simp only [add_plain] at hx154_1 | skip)
    (first | simp only [add_plain] at hx154_2 | skip)
    obtain ⟨ce54, hcl54, hM54, hcc54, hfr54⟩ := Kd.R_elem HO_0.out z29 (x17_2 : Int) p54 q54
    obtain rfl := k29_openM hM54
    have hx54_0 : World.cell? _ ⟨go54, (x17_2 : Int).toNat * 3, none⟩ = some (.string ((rd_T29 x0_2 x17_2).f0)) := hcc54 0 _ rfl
    have hx54_1 : World.cell? _ ⟨go54, (x17_2 : Int).toNat * 3 + 1, none⟩ = some (.int .i64 ((rd_T29 x0_2 x17_2).f1)) := hcc54 1 _ rfl
    have hx54_2 : World.cell? _ ⟨go54, (x17_2 : Int).toNat * 3 + 2, none⟩ = some (.bool ((rd_T29 x0_2 x17_2).f2)) := hcc54 2 _ rfl
    have hf54_0 : World.frozen? _ ⟨go54, (x17_2 : Int).toNat * 3, none⟩ = false := hfr54 0
    have hf54_1 : World.frozen? _ ⟨go54, (x17_2 : Int).toNat * 3 + 1, none⟩ = false := hfr54 1
    have hf54_2 : World.frozen? _ ⟨go54, (x17_2 : Int).toNat * 3 + 2, none⟩ = false := hfr54 2
    clear hcl54 hcc54 hfr54 hM54
    replace p54 := eq_true p54
    replace q54 := eq_true q54
    obtain ⟨ce58, hcl58, hM58, hcc58, hfr58⟩ := Kd.R_elem HO_0.out z29 (x17_2 : Int) (of_decide_eq_true (by first | (with_reducible assumption) | assumption)) (by have h_ : (x17_2 : Int) < ((x0_2.length : Int) : Int) := of_decide_eq_true (by first | (with_reducible assumption) | assumption); first | exact h_ | (have e_ := (Kd.R_reads' HO_0.out).1; omega) | simpa using h_)
    obtain rfl := k29_openM hM58
    have HP58 := (Kd.R_seg HO_0.out (x17_2 : Int) (of_decide_eq_true (by first | (with_reducible assumption) | assumption)) (by have h_ : (x17_2 : Int) < ((x0_2.length : Int) : Int) := of_decide_eq_true (by first | (with_reducible assumption) | assumption); first | exact h_ | (have e_ := (Kd.R_reads' HO_0.out).1; omega) | simpa using h_) (seg := [.string ((rd_T29 x0_2 (ji49)).f0), .int .i64 ((rd_T29 x0_2 (ji49)).f1), .bool ((rd_T29 x0_2 (ji49)).f2)]) (j := 0) hcl58 hcc58 (show 3 ≤ 3 from by decide) (x' := (⟨(rd_T29 x0_2 (ji49)).f0, (rd_T29 x0_2 (ji49)).f1, (rd_T29 x0_2 (ji49)).f2⟩ : S29)) (k29_mkM _ _ _ (⟨(rd_T29 x0_2 (ji49)).f0, (rd_T29 x0_2 (ji49)).f1, (rd_T29 x0_2 (ji49)).f2⟩ : S29) ) (fun _ hk => hk)).1
    rw [← Ny155.out] at HP58
    have HQ58 := Aside0.mk HP58
    clear hcl58 hcc58 hfr58 hM58 HP58
    have p55 : 0 ≤ ((ji49) : Int) := of_decide_eq_true (by first | (with_reducible assumption) | assumption)
    have q55 : ((ji49) : Int) < ((x0_2.length : Int) : Int) := of_decide_eq_true (by first | (with_reducible assumption) | assumption)
    obtain ⟨ce55, hcl55, hM55, hcc55, hfr55⟩ := Kd.R_elem HQ58.out z29 ((ji49) : Int) p55 q55
    obtain rfl := k29_openM hM55
    have hx55_0 : World.cell? _ ⟨go54, ((ji49) : Int).toNat * 3, none⟩ = some (.string ((rd_T29 y155 (ji49)).f0)) := hcc55 0 _ rfl
    have hx55_1 : World.cell? _ ⟨go54, ((ji49) : Int).toNat * 3 + 1, none⟩ = some (.int .i64 ((rd_T29 y155 (ji49)).f1)) := hcc55 1 _ rfl
    have hx55_2 : World.cell? _ ⟨go54, ((ji49) : Int).toNat * 3 + 2, none⟩ = some (.bool ((rd_T29 y155 (ji49)).f2)) := hcc55 2 _ rfl
    have hf55_0 : World.frozen? _ ⟨go54, ((ji49) : Int).toNat * 3, none⟩ = false := hfr55 0
    have hf55_1 : World.frozen? _ ⟨go54, ((ji49) : Int).toNat * 3 + 1, none⟩ = false := hfr55 1
    have hf55_2 : World.frozen? _ ⟨go54, ((ji49) : Int).toNat * 3 + 2, none⟩ = false := hfr55 2
    clear hcl55 hcc55 hfr55 hM55
    replace p55 := eq_true p55
    replace q55 := eq_true q55
    obtain ⟨ce59, hcl59, hM59, hcc59, hfr59⟩ := Kd.R_elem HQ58.out z29 ((ji49) : Int) (of_decide_eq_true (by first | (with_reducible assumption) | assumption)) (by have h_ : ((ji49) : Int) < ((x0_2.length : Int) : Int) := of_decide_eq_true (by first | (with_reducible assumption) | assumption); first | exact h_ | (have e_ := (Kd.R_reads' HO_0.out).1; omega) | simpa using h_)
    obtain rfl := k29_openM hM59
    have HP59 := (Kd.R_seg HQ58.out ((ji49) : Int) (of_decide_eq_true (by first | (with_reducible assumption) | assumption)) (by have h_ : ((ji49) : Int) < ((x0_2.length : Int) : Int) := of_decide_eq_true (by first | (with_reducible assumption) | assumption); first | exact h_ | (have e_ := (Kd.R_reads' HO_0.out).1; omega) | simpa using h_) (seg := [.string ((rd_T29 x0_2 x17_2).f0), .int .i64 ((rd_T29 x0_2 x17_2).f1), .bool ((rd_T29 x0_2 x17_2).f2)]) (j := 0) hcl59 hcc59 (show 3 ≤ 3 from by decide) (x' := (⟨(rd_T29 x0_2 x17_2).f0, (rd_T29 x0_2 x17_2).f1, (rd_T29 x0_2 x17_2).f2⟩ : S29)) (k29_mkM _ _ _ (⟨(rd_T29 x0_2 x17_2).f0, (rd_T29 x0_2 x17_2).f1, (rd_T29 x0_2 x17_2).f2⟩ : S29) ) (fun _ hk => hk)).1
    rw [← Ny156.out] at HP59
    have HQ59 := Aside0.mk HP59
    clear hcl59 hcc59 hfr59 hM59 HP59
    (try have hnnA_ : ¬ ((ji49).toNat = (x17_2).toNat) := fun e0_ => (fun e_ => by have h1_ := (show (0 : Int) ≤ x17_2 by first | assumption | (exact of_eq_true (by assumption)) | (exact of_decide_eq_true (by assumption))); have h2_ := (show (0 : Int) ≤ ji49 by first | assumption | (exact of_eq_true (by assumption)) | (exact of_decide_eq_true (by assumption))); have h3_ : x17_2 = ji49 := (by omega); have h4_ := hji49; rw [← h3_] at h4_; unfold wrap64 at h4_; omega) e0_)
    (try simp only [World.frozen?_setCells] at hf54_0)
    (try simp only [World.frozen?_setCells] at hf54_1)
    (try simp only [World.frozen?_setCells] at hf54_2)
    (try simp only [World.frozen?_setCells] at hf55_0)
    (try simp only [World.frozen?_setCells] at hf55_1)
    (try simp only [World.frozen?_setCells] at hf55_2)
    (try have hnnB_ : ¬ ((x17_2).toNat = (ji49).toNat) := fun e_ => hnnA_ e_.symm)
    refine start_ (n := 18) (S := fun w' => w'.cell? ⟨go54, (((ji49)).toNat * 3), none⟩ = some (.string ((rd_T29 x0_2 (ji49)).f0)) ∧ w'.cell? ⟨go54, (((ji49)).toNat * 3) + 1, none⟩ = some (.int .i64 ((rd_T29 x0_2 (ji49)).f1)) ∧ w'.cell? ⟨go54, (((ji49)).toNat * 3) + 2, none⟩ = some (.bool ((rd_T29 x0_2 (ji49)).f2)) ∧ w'.cell? ⟨go54, ((x17_2).toNat * 3), none⟩ = some (.string ((rd_T29 x0_2 x17_2).f0)) ∧ w'.cell? ⟨go54, ((x17_2).toNat * 3) + 1, none⟩ = some (.int .i64 ((rd_T29 x0_2 x17_2).f1)) ∧ w'.cell? ⟨go54, ((x17_2).toNat * 3) + 2, none⟩ = some (.bool ((rd_T29 x0_2 x17_2).f2))) (ds := [15, 17]) #[false, false, false, false, false, false, false, false, false, false, false, false, false, false, false, false, false, false] (by as_aux_lemma => kernel_rfl) rfl rfl ⟨hx153_0, hx153_1, hx153_2, hx154_0, hx154_1, hx154_2⟩ (fun hHeld => ?_); refine with_tabW slices_symMergeCmpFunc_api_Intent_at_outbox_Latest_1.tab23 slices_symMergeCmpFunc_api_Intent_at_outbox_Latest_1.bits23 (fun HT_ HW_ => ?_)
    generalize wr.drew = w56 at HO_0 HK HB GG54 HQ58 HQ59 hf54_0 hf54_1 hf54_2 hf55_0 hf55_1 hf55_2 hx153_0 hx153_1 hx153_2 hx154_0 hx154_1 hx154_2 hx54_0 hx54_1 hx54_2 hx55_0 hx55_1 hx55_2 hHeld ⊢
    refine pure_ (i := 0) (N := some 113) (v := ?_) (a' := ?_) #[true, false, false, false, false, false, false, false, false, false, false, false, false, false, false, false, false, false] rfl rfl (any_of HT_.out (by as_aux_lemma => kernel_rfl)) (fun _ _ _ h => h) (Or.inl ⟨by rfl, ?_⟩) ?_ ?_
    rotate_left
    ·intro w'
     go_simp
     with_reducible rfl
    rotate_left
    ·simp only [Act.put, sT, sZ, sS, i64_w, i32_w]
     rfl
    refine pure_ (i := 1) (N := some 114) (v := ?_) (a' := ?_) #[true, true, false, false, false, false, false, false, false, false, false, false, false, false, false, false, false, false] rfl rfl (any_of HT_.out (by as_aux_lemma => kernel_rfl)) (fun _ _ _ h => h) (Or.inl ⟨by rfl, ?_⟩) ?_ ?_
    rotate_left
    ·intro w'
     go_simp
     with_reducible rfl
    rotate_left
    ·simp only [Act.put, sT, sZ, sS, i64_w, i32_w]
     rfl
    refine pure_ (i := 2) (N := some 115) (v := ?_) (a' := ?_) #[true, true, true, false, false, false, false, false, false, false, false, false, false, false, false, false, false, false] rfl rfl (any_of HT_.out (by as_aux_lemma => kernel_rfl)) (fun _ _ _ h => h) (Or.inl ⟨by rfl, ?_⟩) ?_ ?_
    rotate_left
    ·intro w'
     go_simp
     with_reducible rfl
    rotate_left
    ·simp only [Act.put, sT, sZ, sS, i64_w, i32_w]
     rfl
    refine pure_ (i := 3) (N := some 116) (v := ?_) (a' := ?_) #[true, true, true, true, false, false, false, false, false, false, false, false, false, false, false, false, false, false] rfl rfl (any_of HT_.out (by as_aux_lemma => kernel_rfl)) (fun _ _ _ h => h) (Or.inl ⟨by rfl, ?_⟩) ?_ ?_
    rotate_left
    ·intro w'
     go_simp
     with_reducible rfl
    rotate_left
    ·simp only [Act.put, sT, sZ, sS, i64_w, i32_w]
     rfl
    refine pure_ (i := 4) (N := some 117) (v := ?_) (a' := ?_) #[true, true, true, true, true, false, false, false, false, false, false, false, false, false, false, false, false, false] rfl rfl (any_of HT_.out (by as_aux_lemma => kernel_rfl)) (fun _ _ _ h => h) (Or.inl ⟨by rfl, ?_⟩) ?_ ?_
    rotate_left
    ·intro w'
     go_simp
     with_reducible rfl
    rotate_left
    ·simp only [Act.put, sT, sZ, sS, i64_w, i32_w]
     rfl
    refine pure_ (i := 5) (N := some 118) (v := ?_) (a' := ?_) #[true, true, true, true, true, true, false, false, false, false, false, false, false, false, false, false, false, false] rfl rfl (any_of HT_.out (by as_aux_lemma => kernel_rfl)) (fun _ _ _ h => h) (Or.inl ⟨by rfl, ?_⟩) ?_ ?_
    rotate_left
    ·intro w'
     go_simp
     with_reducible rfl
    rotate_left
    ·simp only [Act.put, sT, sZ, sS, i64_w, i32_w]
     rfl
    refine pure_ (i := 6) (N := some 119) (v := ?_) (a' := ?_) #[true, true, true, true, true, true, true, false, false, false, false, false, false, false, false, false, false, false] rfl rfl (any_of HT_.out (by as_aux_lemma => kernel_rfl)) (fun _ _ _ h => h) (Or.inl ⟨by rfl, ?_⟩) ?_ ?_
    rotate_left
    ·intro w'
     go_simp
     with_reducible rfl
    rotate_left
    ·simp only [Act.put, sT, sZ, sS, i64_w, i32_w]
     rfl
    refine pure_ (i := 7) (N := some 120) (v := ?_) (a' := ?_) #[true, true, true, true, true, true, true, true, false, false, false, false, false, false, false, false, false, false] rfl rfl (any_of HT_.out (by as_aux_lemma => kernel_rfl)) (fun _ _ _ h => h) (Or.inl ⟨by rfl, ?_⟩) ?_ ?_
    rotate_left
    ·intro w'
     go_simp
     with_reducible rfl
    rotate_left
    ·simp only [Act.put, sT, sZ, sS, i64_w, i32_w]
     rfl
    refine pure_ (i := 8) (N := some 121) (v := ?_) (a' := ?_) #[true, true, true, true, true, true, true, true, true, false, false, false, false, false, false, false, false, false] rfl rfl (any_of HT_.out (by as_aux_lemma => kernel_rfl)) (fun _ _ _ h => h) (Or.inl ⟨by rfl, ?_⟩) ?_ ?_
    rotate_left
    ·intro w'
     go_simp
     with_reducible rfl
    rotate_left
    ·simp only [Act.put, sT, sZ, sS, i64_w, i32_w]
     rfl
    refine pure_ (i := 10) (N := some 123) (v := ?_) (a' := ?_) #[true, true, true, true, true, true, true, true, true, false, true, false, false, false, false, false, false, false] rfl rfl (any_of HT_.out (by as_aux_lemma => kernel_rfl)) (fun _ _ _ h => h) (Or.inl ⟨by rfl, ?_⟩) ?_ ?_
    rotate_left
    ·intro w'
     go_simp
     with_reducible rfl
    rotate_left
    ·simp only [Act.put, sT, sZ, sS, i64_w, i32_w]
     rfl
    refine pure_ (i := 11) (N := some 124) (v := ?_) (a' := ?_) #[true, true, true, true, true, true, true, true, true, false, true, true, false, false, false, false, false, false] rfl rfl (any_of HT_.out (by as_aux_lemma => kernel_rfl)) (fun _ _ _ h => h) (Or.inl ⟨by rfl, ?_⟩) ?_ ?_
    rotate_left
    ·intro w'
     go_simp
     with_reducible rfl
    rotate_left
    ·simp only [Act.put, sT, sZ, sS, i64_w, i32_w]
     rfl
    refine pure_ (i := 12) (N := some 125) (v := ?_) (a' := ?_) #[true, true, true, true, true, true, true, true, true, false, true, true, true, false, false, false, false, false] rfl rfl (any_of HT_.out (by as_aux_lemma => kernel_rfl)) (fun _ _ _ h => h) (Or.inl ⟨by rfl, ?_⟩) ?_ ?_
    rotate_left
    ·intro w'
     go_simp
     with_reducible rfl
    rotate_left
    ·simp only [Act.put, sT, sZ, sS, i64_w, i32_w]
     rfl
    refine take_ (i := 9) (N := some 122) (v := ?_) (a' := ?_) #[true, true, true, true, true, true, true, true, true, true, true, true, true, false, false, false, false, false] rfl rfl (take_ofW HT_.out HW_.out (by as_aux_lemma => kernel_rfl)) (fun _ _ _ h => h) (Or.inl ⟨by rfl, ?_⟩) hHeld ?_ ?_
    rotate_left
    ·rintro w' ⟨s0, s1, s2, s3, s4, s5⟩
     go_simp
     with_reducible rfl
    rotate_left
    ·simp only [Act.put, sT, sZ, sS, i64_w, i32_w]
     rfl
    refine take_ (i := 13) (N := some 126) (v := ?_) (a' := ?_) #[true, true, true, true, true, true, true, true, true, true, true, true, true, true, false, false, false, false] rfl rfl (take_ofW HT_.out HW_.out (by as_aux_lemma => kernel_rfl)) (fun _ _ _ h => h) (Or.inl ⟨by rfl, ?_⟩) hHeld ?_ ?_
    rotate_left
    ·rintro w' ⟨s0, s1, s2, s3, s4, s5⟩
     go_simp
     with_reducible rfl
    rotate_left
    ·simp only [Act.put, sT, sZ, sS, i64_w, i32_w]
     rfl
    refine pure_ (i := 14) (N := some 127) (v := ?_) (a' := ?_) #[true, true, true, true, true, true, true, true, true, true, true, true, true, true, true, false, false, false] rfl rfl (any_of HT_.out (by as_aux_lemma => kernel_rfl)) (fun _ _ _ h => h) (Or.inl ⟨by rfl, ?_⟩) ?_ ?_
    rotate_left
    ·intro w'
     go_simp
     with_reducible rfl
    rotate_left
    ·simp only [Act.put, sT, sZ, sS, i64_w, i32_w]
     rfl
    refine last_ (i := 15) (N := none) #[true, true, true, true, true, true, true, true, true, true, true, true, true, true, true, true, false, false] rfl rfl (one_of HT_.out (by as_aux_lemma => kernel_rfl)) (by decide) (fun K hK => ?_)
    refine skip_ (w1 := ?_) (by rfl) rfl ?_ ?_
    rotate_left
    ·go_simp
     rfl
    refine hK.out _ _ ?_
    clear hK K
    refine pure_ (i := 16) (N := some 128) (v := ?_) (a' := ?_) #[true, true, true, true, true, true, true, true, true, true, true, true, true, true, true, true, true, false] rfl rfl (any_of HT_.out (by as_aux_lemma => kernel_rfl)) (fun _ _ _ h => h) (Or.inl ⟨by rfl, ?_⟩) ?_ ?_
    rotate_left
    ·intro w'
     go_simp
     with_reducible rfl
    rotate_left
    ·simp only [Act.put, sT, sZ, sS, i64_w, i32_w]
     rfl
    refine last_ (i := 17) (N := none) #[true, true, true, true, true, true, true, true, true, true, true, true, true, true, true, true, true, true] rfl rfl (one_of HT_.out (by as_aux_lemma => kernel_rfl)) (by decide) (fun K hK => ?_)
    refine skip_ (w1 := ?_) (by rfl) rfl ?_ ?_
    rotate_left
    ·go_simp
     rfl
    refine hK.out _ _ ?_
    clear hK K
    refine done_ (done_of HT_.out (by as_aux_lemma => kernel_rfl)) ?_
    try go_wp2
    go_roundg k2
    case measure => have := HK1.out; have := HK2.out; omega
    case rel => exact ⟨(y156), (ji49), (by first | rfl | (simp; done) | (simp only [← hji49] <;> (first | rfl | simp)) | (simp [*]; done)), H', ⟨by have := HK1.out; have := HK2.out; omega⟩, ⟨by exact (by first | exact rL HQ59.out | exact HQ59.out)⟩, ⟨by repeat (first | (with_reducible first | exact HK.out | apply Kept.alloc | apply Kept.drewN | apply Kept.drew | refine Kept.setCell ?_ HMgo54.out _ | refine Kept.setCell ?_ HMgo54.out _ | refine Kept.setCell ?_ HMgo54.out _ | refine Kept.setCell ?_ HMgo54.out _ | refine Kept.setCell ?_ HMgo54.out _ | refine Kept.setCell ?_ HMgo54.out _) | exact HK.out)⟩, ⟨by repeat (first | (with_reducible first | exact HB.out | apply below_alloc | apply pw_below_drewN | apply below_drew1 | refine below_set ?_ GB54.out | refine below_set ?_ GB54.out | refine below_set ?_ GB54.out | refine below_set ?_ GB54.out | refine below_set ?_ GB54.out | refine below_set ?_ GB54.out) | exact HB.out)⟩⟩
 rw [if_neg c33] at H
 have c33b0 : ((wrap64 (a3 - a2)) == 1) = false := beq_eq_false_iff_ne.mpr c33
 have c33b1 : ((wrap64 (a3 - a2)) != 1) = true := bne_iff_ne.mpr c33
 have HC60 := Aside0.mk H
 clear H
 go_enter Try.func72, Try.ntmps72
 go_upto_if 140 with (fail)
 go_cut [20, 21] (fun v20 v21 wc => ∃ (kq : Nat) (x20_59 : Int) (x21_59 : Int), v20 = .int .i64 x20_59 ∧ v21 = .int .i64 x21_59 ∧ Aside0 (slices_symMergeCmpFunc_api_Intent_at_outbox_Latest_1.j4 kq l0 a1 a2 a3 (wrap64 ((IntKind.u64.wrap (wrap64 (a1 + a3))) / 2)) (wrap64 ((wrap64 ((IntKind.u64.wrap (wrap64 (a1 + a3))) / 2)) + a2)) x20_59 x21_59 = some r) ∧ Aside0 (kq ≤ k) ∧ Aside0 (Kd.R k29 29 wc w0.heap.size (fun k_ => (P0_ k_ ∨ w.heap.size ≤ k_)) u9000_ l0) ∧ Aside0 (Kept w wc (fun k_ => P0_ k_)) ∧ Aside0 (Below w0.heap.size w0 wc))
 case first =>
  have H := HC60.out
  clear HC60
  by_cases c61 : a2 > (wrap64 ((IntKind.u64.wrap (wrap64 (a1 + a3))) / 2))
  rotate_left
  ·rw [if_neg c61] at H
   have c61b0 : decide ((wrap64 ((IntKind.u64.wrap (wrap64 (a1 + a3))) / 2)) < a2) = false := decide_eq_false c61
   clear c61
   (first | rw [c61b0] | (simp only [i64_w, i32_w]; rw [c61b0]) | skip)
   have H' := Aside0.mk H
   clear H
   go_wp2
   go_meet
   case rel => exact ⟨_, (a1), (a2), (by first | rfl | (simp; done) | (simp [*]; done) | (simp [ne_nil_bytes]; done) | (simp [eq_nil_bytes]; done)), (by first | rfl | (simp; done) | (simp [*]; done) | (simp [ne_nil_bytes]; done) | (simp [eq_nil_bytes]; done)), H', ⟨by first | omega | exact Nat.le_refl _⟩, ⟨by exact rL HO0.out⟩, ⟨by repeat (first | (with_reducible first | exact HK.out | apply Kept.alloc | apply Kept.drewN | apply Kept.drew) | exact HK.out)⟩, ⟨hL HB.out⟩⟩
  rw [if_pos c61] at H
  have c61b0 : decide ((wrap64 ((IntKind.u64.wrap (wrap64 (a1 + a3))) / 2)) < a2) = true := decide_eq_true c61
  clear c61
  (first | rw [c61b0] | (simp only [i64_w, i32_w]; rw [c61b0]) | skip)
  have H' := Aside0.mk H
  clear H
  go_wp2
  go_meet
  case rel => exact ⟨_, (wrap64 ((wrap64 ((wrap64 ((IntKind.u64.wrap (wrap64 (a1 + a3))) / 2)) + a2)) - a3)), (wrap64 ((IntKind.u64.wrap (wrap64 (a1 + a3))) / 2)), (by first | rfl | (simp; done) | (simp [*]; done) | (simp [ne_nil_bytes]; done) | (simp [eq_nil_bytes]; done)), (by first | rfl | (simp; done) | (simp [*]; done) | (simp [ne_nil_bytes]; done) | (simp [eq_nil_bytes]; done)), H', ⟨by first | omega | exact Nat.le_refl _⟩, ⟨by exact rL HO0.out⟩, ⟨by repeat (first | (with_reducible first | exact HK.out | apply Kept.alloc | apply Kept.drewN | apply Kept.drew) | exact HK.out)⟩, ⟨hL HB.out⟩⟩
 as_aux_lemma =>
  clear HC60
  try clear c1
  try clear p1
  try clear q1
  try clear hx1
  try clear c2
  try clear p2
  try clear q2
  try clear hx2
  try clear c3
  try clear c4
  try clear c5
  try clear p5
  try clear q5
  try clear hx5
  try clear hf5
  try clear c6
  try clear c6b0
  try clear c6b0z
  try clear c6b1
  try clear c6b1z
  try clear p6
  try clear c7
  try clear c7b0
  try clear c7b0z
  try clear c9
  try clear c9b0
  try clear c9b0z
  try clear c10
  try clear c10b0
  try clear c10b0z
  try clear c11
  try clear c11b0
  try clear c11b0z
  try clear c12
  try clear c12b0
  try clear c12b0z
  try clear c14
  try clear c14b0
  try clear c14b0z
  try clear p14
  try clear q14
  try clear hx14
  try clear p15
  try clear q15
  try clear hx15
  try clear c20
  try clear c21
  try clear c21b0
  try clear c21b0z
  try clear c23
  try clear c23b0
  try clear c23b0z
  try clear c24
  try clear c24b0
  try clear c24b0z
  try clear c25
  try clear c25b0
  try clear c25b0z
  try clear c26
  try clear c26b0
  try clear c26b0z
  try clear c27
  try clear p27
  try clear q27
  try clear hx27
  try clear hf27
  try clear c28
  try clear p28
  try clear q28
  try clear hx28
  try clear hf28
  try clear c31
  try clear c32
  try clear c33
  try clear c33b0
  try clear c33b0z
  try clear c33b1
  try clear c33b1z
  try clear c34
  try clear c34b0
  try clear c34b0z
  try clear c35
  try clear c35b0
  try clear c35b0z
  try clear c36
  try clear c36b0
  try clear c36b0z
  try clear c38
  try clear c38b0
  try clear c38b0z
  try clear c39
  try clear c39b0
  try clear c39b0z
  try clear c41
  try clear c41b0
  try clear c41b0z
  try clear c48
  try clear c48b0
  try clear c48b0z
  try clear c50
  try clear c50b0
  try clear c50b0z
  try clear c51
  try clear c51b0
  try clear c51b0z
  try clear c52
  try clear c52b0
  try clear c52b0z
  try clear c53
  try clear c53b0
  try clear c53b0z
  try clear c54
  try clear p54
  try clear q54
  try clear hx54
  try clear hf54
  try clear c55
  try clear p55
  try clear q55
  try clear hx55
  try clear hf55
  try clear c58
  try clear c59
  try clear c61
  try clear c61b0
  try clear c61b0z
  try clear hx143_0
  try clear hx143_1
  try clear hx143_2
  try clear hx144_0
  try clear hx144_1
  try clear hx144_2
  try clear hx146_0
  try clear hx146_1
  try clear hx146_2
  try clear hx147_0
  try clear hx147_1
  try clear hx147_2
  try clear hx150_0
  try clear hx150_1
  try clear hx150_2
  try clear hx151_0
  try clear hx151_1
  try clear hx151_2
  try clear hx153_0
  try clear hx153_1
  try clear hx153_2
  try clear hx154_0
  try clear hx154_1
  try clear hx154_2
  try clear hx27_0
  try clear hx27_1
  try clear hx27_2
  try clear hx28_0
  try clear hx28_1
  try clear hx28_2
  try clear hx54_0
  try clear hx54_1
  try clear hx54_2
  try clear hx55_0
  try clear hx55_1
  try clear hx55_2
  try clear p1
  try clear p14
  try clear p143
  try clear p144
  try clear p146
  try clear p147
  try clear p15
  try clear p150
  try clear p151
  try clear p153
  try clear p154
  try clear p2
  try clear p27
  try clear p28
  try clear p54
  try clear p55
  try clear p6
  try clear q1
  try clear q14
  try clear q143
  try clear q144
  try clear q146
  try clear q147
  try clear q15
  try clear q150
  try clear q151
  try clear q153
  try clear q154
  try clear q2
  try clear q27
  try clear q28
  try clear q54
  try clear q55
  obtain ⟨kq, x20_59, x21_59, rfl, rfl, HA, HJ59, HO_0, HK, HB⟩ := hcut
  rcases kq with _ | kj59
  ·exact absurd HA.out (by simp [slices_symMergeCmpFunc_api_Intent_at_outbox_Latest_1.j4])
  have H := HA.out
  clear HA
  simp only [slices_symMergeCmpFunc_api_Intent_at_outbox_Latest_1.j4] at H
  have H' := Aside0.mk H
  clear H
  go_wp2
  go_loopg [20, 21] kj59 (fun kq v20 v21 w' => ∃ (x20_2 : Int) (x21_2 : Int), v20 = .int .i64 x20_2 ∧ v21 = .int .i64 x21_2 ∧ Aside0 (slices_symMergeCmpFunc_api_Intent_at_outbox_Latest_1.l4 kq l0 a1 a2 a3 (wrap64 ((IntKind.u64.wrap (wrap64 (a1 + a3))) / 2)) (wrap64 ((wrap64 ((IntKind.u64.wrap (wrap64 (a1 + a3))) / 2)) + a2)) x20_2 x21_2 (wrap64 ((wrap64 ((wrap64 ((IntKind.u64.wrap (wrap64 (a1 + a3))) / 2)) + a2)) - 1)) = some r) ∧ Aside0 (kq ≤ kj59) ∧ Aside0 (Kd.R k29 29 w' w0.heap.size (fun k_ => (P0_ k_ ∨ w.heap.size ≤ k_)) u9000_ l0) ∧ Aside0 (Kept w w' (fun k_ => P0_ k_)) ∧ Aside0 (Below w0.heap.size w0 w'))
  case atStart => exact ⟨(x20_59), (x21_59), (by first | rfl | (simp; done) | (simp [*]; done) | (simp [ne_nil_bytes]; done) | (simp [eq_nil_bytes]; done)), (by first | rfl | (simp; done) | (simp [*]; done) | (simp [ne_nil_bytes]; done) | (simp [eq_nil_bytes]; done)), H', ⟨Nat.le_refl _⟩, ⟨by exact rL HO_0.out⟩, ⟨by repeat (first | (with_reducible first | exact HK.out | apply Kept.alloc | apply Kept.drewN | apply Kept.drew) | exact HK.out)⟩, ⟨hL HB.out⟩⟩
  as_aux_lemma =>
   clear H'
   try clear c1
   try clear p1
   try clear q1
   try clear hx1
   try clear c2
   try clear p2
   try clear q2
   try clear hx2
   try clear c3
   try clear c4
   try clear c5
   try clear p5
   try clear q5
   try clear hx5
   try clear hf5
   try clear c6
   try clear c6b0
   try clear c6b0z
   try clear c6b1
   try clear c6b1z
   try clear p6
   try clear c7
   try clear c7b0
   try clear c7b0z
   try clear c9
   try clear c9b0
   try clear c9b0z
   try clear c10
   try clear c10b0
   try clear c10b0z
   try clear c11
   try clear c11b0
   try clear c11b0z
   try clear c12
   try clear c12b0
   try clear c12b0z
   try clear c14
   try clear c14b0
   try clear c14b0z
   try clear p14
   try clear q14
   try clear hx14
   try clear p15
   try clear q15
   try clear hx15
   try clear c20
   try clear c21
   try clear c21b0
   try clear c21b0z
   try clear c23
   try clear c23b0
   try clear c23b0z
   try clear c24
   try clear c24b0
   try clear c24b0z
   try clear c25
   try clear c25b0
   try clear c25b0z
   try clear c26
   try clear c26b0
   try clear c26b0z
   try clear c27
   try clear p27
   try clear q27
   try clear hx27
   try clear hf27
   try clear c28
   try clear p28
   try clear q28
   try clear hx28
   try clear hf28
   try clear c31
   try clear c32
   try clear c33
   try clear c33b0
   try clear c33b0z
   try clear c33b1
   try clear c33b1z
   try clear c34
   try clear c34b0
   try clear c34b0z
   try clear c35
   try clear c35b0
   try clear c35b0z
   try clear c36
   try clear c36b0
   try clear c36b0z
   try clear c38
   try clear c38b0
   try clear c38b0z
   try clear c39
   try clear c39b0
   try clear c39b0z
   try clear c41
   try clear c41b0
   try clear c41b0z
   try clear c48
   try clear c48b0
   try clear c48b0z
   try clear c50
   try clear c50b0
   try clear c50b0z
   try clear c51
   try clear c51b0
   try clear c51b0z
   try clear c52
   try clear c52b0
   try clear c52b0z
   try clear c53
   try clear c53b0
   try clear c53b0z
   try clear c54
   try clear p54
   try clear q54
   try clear hx54
   try clear hf54
   try clear c55
   try clear p55
   try clear q55
   try clear hx55
   try clear hf55
   try clear c58
   try clear c59
   try clear c61
   try clear c61b0
   try clear c61b0z
   try clear hx143_0
   try clear hx143_1
   try clear hx143_2
   try clear hx144_0
   try clear hx144_1
   try clear hx144_2
   try clear hx146_0
   try clear hx146_1
   try clear hx146_2
   try clear hx147_0
   try clear hx147_1
   try clear hx147_2
   try clear hx150_0
   try clear hx150_1
   try clear hx150_2
   try clear hx151_0
   try clear hx151_1
   try clear hx151_2
   try clear hx153_0
   try clear hx153_1
   try clear hx153_2
   try clear hx154_0
   try clear hx154_1
   try clear hx154_2
   try clear hx27_0
   try clear hx27_1
   try clear hx27_2
   try clear hx28_0
   try clear hx28_1
   try clear hx28_2
   try clear hx54_0
   try clear hx54_1
   try clear hx54_2
   try clear hx55_0
   try clear hx55_1
   try clear hx55_2
   try clear p1
   try clear p14
   try clear p143
   try clear p144
   try clear p146
   try clear p147
   try clear p15
   try clear p150
   try clear p151
   try clear p153
   try clear p154
   try clear p2
   try clear p27
   try clear p28
   try clear p5
   try clear p54
   try clear p55
   try clear p6
   try clear q1
   try clear q14
   try clear q143
   try clear q144
   try clear q146
   try clear q147
   try clear q15
   try clear q150
   try clear q151
   try clear q153
   try clear q154
   try clear q2
   try clear q27
   try clear q28
   try clear q5
   try clear q54
   try clear q55
   obtain ⟨x20_2, x21_2, rfl, rfl, HA, HK2, HO_0, HK, HB⟩ := hrel
   rcases gk with _ | k2
   ·exact absurd HA.out (by simp [slices_symMergeCmpFunc_api_Intent_at_outbox_Latest_1.l4])
   have H := HA.out
   clear HA
   simp only [slices_symMergeCmpFunc_api_Intent_at_outbox_Latest_1.l4] at H
   by_cases c62 : x20_2 < x21_2
   ·rw [if_pos c62] at H
    have c62b0 : decide (x20_2 < x21_2) = true := decide_eq_true c62
    clear c62
    obtain ⟨ji63, hji63⟩ : ∃ j_ : Int, (wrap64 ((wrap64 ((wrap64 ((wrap64 ((IntKind.u64.wrap (wrap64 (a1 + a3))) / 2)) + a2)) - 1)) - (wrap64 ((IntKind.u64.wrap (wrap64 (x20_2 + x21_2))) / 2)))) = j_ := ⟨_, rfl⟩
    replace H : (if 0 ≤ (ji63) then (if (ji63) < (l0.length : Int) then (if 0 ≤ (wrap64 ((IntKind.u64.wrap (wrap64 (x20_2 + x21_2))) / 2)) then (if (wrap64 ((IntKind.u64.wrap (wrap64 (x20_2 + x21_2))) / 2)) < (l0.length : Int) then ((outbox_Latest_1_v158.f k2 ((rd_T29 l0 (ji63)).f0) ((rd_T29 l0 (ji63)).f1) ((rd_T29 l0 (ji63)).f2) ((rd_T29 l0 (wrap64 ((IntKind.u64.wrap (wrap64 (x20_2 + x21_2))) / 2))).f0) ((rd_T29 l0 (wrap64 ((IntKind.u64.wrap (wrap64 (x20_2 + x21_2))) / 2))).f1) ((rd_T29 l0 (wrap64 ((IntKind.u64.wrap (wrap64 (x20_2 + x21_2))) / 2))).f2)).bind fun t159 => (if t159 < 0 then (slices_symMergeCmpFunc_api_Intent_at_outbox_Latest_1.l4 k2 l0 a1 a2 a3 (wrap64 ((IntKind.u64.wrap (wrap64 (a1 + a3))) / 2)) (wrap64 ((wrap64 ((IntKind.u64.wrap (wrap64 (a1 + a3))) / 2)) + a2)) x20_2 (wrap64 ((IntKind.u64.wrap (wrap64 (x20_2 + x21_2))) / 2)) (wrap64 ((wrap64 ((wrap64 ((IntKind.u64.wrap (wrap64 (a1 + a3))) / 2)) + a2)) - 1))) else (slices_symMergeCmpFunc_api_Intent_at_outbox_Latest_1.l4 k2 l0 a1 a2 a3 (wrap64 ((IntKind.u64.wrap (wrap64 (a1 + a3))) / 2)) (wrap64 ((wrap64 ((IntKind.u64.wrap (wrap64 (a1 + a3))) / 2)) + a2)) (wrap64 ((wrap64 ((IntKind.u64.wrap (wrap64 (x20_2 + x21_2))) / 2)) + 1)) x21_2 (wrap64 ((wrap64 ((wrap64 ((IntKind.u64.wrap (wrap64 (a1 + a3))) / 2)) + a2)) - 1))))) else (none)) else (none)) else (none)) else (none)) = some r := by first | (rw [hji63] at H; exact H) | (simp only [hji63] at H ⊢; exact H)
    have hji63w : (IntKind.i64.wrap ((wrap64 ((wrap64 ((wrap64 ((IntKind.u64.wrap (wrap64 (a1 + a3))) / 2)) + a2)) - 1)) - (wrap64 ((IntKind.u64.wrap (wrap64 (x20_2 + x21_2))) / 2)))) = ji63 := (i64_w _).trans hji63
    by_cases c64 : 0 ≤ (ji63)
    rotate_left
    ·rw [if_neg c64] at H
     exact absurd H (by simp)
    rw [if_pos c64] at H
    have c64b0 : decide (0 ≤ (ji63)) = true := decide_eq_true c64
    clear c64
    by_cases c65 : (ji63) < (l0.length : Int)
    rotate_left
    ·rw [if_neg c65] at H
     exact absurd H (by simp)
    rw [if_pos c65] at H
    have c65b0 : decide ((ji63) < (l0.length : Int)) = true := decide_eq_true c65
    clear c65
    obtain ⟨ji66, hji66⟩ : ∃ j_ : Int, (wrap64 ((IntKind.u64.wrap (wrap64 (x20_2 + x21_2))) / 2)) = j_ := ⟨_, rfl⟩
    replace H : (if 0 ≤ (ji66) then (if (ji66) < (l0.length : Int) then ((outbox_Latest_1_v158.f k2 ((rd_T29 l0 (ji63)).f0) ((rd_T29 l0 (ji63)).f1) ((rd_T29 l0 (ji63)).f2) ((rd_T29 l0 (ji66)).f0) ((rd_T29 l0 (ji66)).f1) ((rd_T29 l0 (ji66)).f2)).bind fun t159 => (if t159 < 0 then (slices_symMergeCmpFunc_api_Intent_at_outbox_Latest_1.l4 k2 l0 a1 a2 a3 (wrap64 ((IntKind.u64.wrap (wrap64 (a1 + a3))) / 2)) (wrap64 ((wrap64 ((IntKind.u64.wrap (wrap64 (a1 + a3))) / 2)) + a2)) x20_2 ji66 (wrap64 ((wrap64 ((wrap64 ((IntKind.u64.wrap (wrap64 (a1 + a3))) / 2)) + a2)) - 1))) else (slices_symMergeCmpFunc_api_Intent_at_outbox_Latest_1.l4 k2 l0 a1 a2 a3 (wrap64 ((IntKind.u64.wrap (wrap64 (a1 + a3))) / 2)) (wrap64 ((wrap64 ((IntKind.u64.wrap (wrap64 (a1 + a3))) / 2)) + a2)) (wrap64 ((ji66) + 1)) x21_2 (wrap64 ((wrap64 ((wrap64 ((IntKind.u64.wrap (wrap64 (a1 + a3))) / 2)) + a2)) - 1))))) else (none)) else (none)) = some r := by first | (rw [hji66] at H; exact H) | (simp only [hji66] at H ⊢; exact H)
    have hji66w : (IntKind.i64.wrap ((IntKind.u64.wrap (wrap64 (x20_2 + x21_2))) / 2)) = ji66 := (i64_w _).trans hji66
    (try rw [hji66] at hji63)
    (try rw [hji66] at hji63w)
    by_cases c67 : 0 ≤ (ji66)
    rotate_left
    ·rw [if_neg c67] at H
     exact absurd H (by simp)
    rw [if_pos c67] at H
    have c67b0 : decide (0 ≤ (ji66)) = true := decide_eq_true c67
    clear c67
    by_cases c68 : (ji66) < (l0.length : Int)
    rotate_left
    ·rw [if_neg c68] at H
     exact absurd H (by simp)
    rw [if_pos c68] at H
    have c68b0 : decide ((ji66) < (l0.length : Int)) = true := decide_eq_true c68
    clear c68
    replace H := Option.bind_eq_some_iff.mp H
    obtain ⟨t159, A690, H⟩ := H
    replace H : (if t159 < 0 then (slices_symMergeCmpFunc_api_Intent_at_outbox_Latest_1.l4 k2 l0 a1 a2 a3 (wrap64 ((IntKind.u64.wrap (wrap64 (a1 + a3))) / 2)) (wrap64 ((wrap64 ((IntKind.u64.wrap (wrap64 (a1 + a3))) / 2)) + a2)) x20_2 ji66 (wrap64 ((wrap64 ((wrap64 ((IntKind.u64.wrap (wrap64 (a1 + a3))) / 2)) + a2)) - 1))) else (slices_symMergeCmpFunc_api_Intent_at_outbox_Latest_1.l4 k2 l0 a1 a2 a3 (wrap64 ((IntKind.u64.wrap (wrap64 (a1 + a3))) / 2)) (wrap64 ((wrap64 ((IntKind.u64.wrap (wrap64 (a1 + a3))) / 2)) + a2)) (wrap64 ((ji66) + 1)) x21_2 (wrap64 ((wrap64 ((wrap64 ((IntKind.u64.wrap (wrap64 (a1 + a3))) / 2)) + a2)) - 1)))) = some r := H
    have A69 := Aside0.mk A690
    clear A690
    by_cases c70 : t159 < 0
    ·rw [if_pos c70] at H
     have c70b0 : decide (t159 < 0) = true := decide_eq_true c70
     clear c70
     have H' := Aside0.mk H
     clear H
     try go_wp2
     have n0_ := Aside0.mk (Kd.R_drew HO_0.out)
     have n1_ := Aside0.mk (Kept.drew HK.out)
     have n2_ := Aside0.mk (below_drew1 HB.out)
     clear HO_0
     clear HK
     clear HB
     have HO_0 := n0_
     have HK := n1_
     have HB := n2_
     clear n0_ n1_ n2_
     obtain ⟨Ao72, co72, eo72⟩ := Kd.R_slice HO_0.out
     (first | subst eo72 | (injection eo72 with f1_ f2_ f3_; have f4_ := f1_.symm; have f5_ := f3_.symm; clear f1_ f2_ f3_; subst f4_; subst f5_))
     have p157 : 0 ≤ ((ji63) : Int) := of_decide_eq_true (by first | (with_reducible assumption) | assumption)
     have q157 : (ji63) < (l0.length : Int) := of_decide_eq_true (by first | (with_reducible assumption) | assumption)
     obtain ⟨ad157, e157, hx157_0, hx157_1, hx157_2⟩ := at_T29 (Kd.R_reads' HO_0.out).2.2 (ji63) p157 q157
     cases e157
     replace p157 := eq_true p157
     replace q157 := eq_true q157
     have p158 : 0 ≤ ((ji66) : Int) := of_decide_eq_true (by first | (with_reducible assumption) | assumption)
     have q158 : (ji66) < (l0.length : Int) := of_decide_eq_true (by first | (with_reducible assumption) | assumption)
     obtain ⟨ad158, e158, hx158_0, hx158_1, hx158_2⟩ := at_T29 (Kd.R_reads' HO_0.out).2.2 (ji66) p158 q158
     obtain rfl : ad157 = ad158 := (by injection e158)
     replace p158 := eq_true p158
     replace q158 := eq_true q158
     refine start_ (n := 14) (S := fun w' => w'.cell? (ad157.add (((ji63)).toNat * 3)) = some (.string ((rd_T29 l0 (ji63)).f0)) ∧ w'.cell? ⟨(ad157.add (((ji63)).toNat * 3)).block, (ad157.add (((ji63)).toNat * 3)).off + 1, none⟩ = some (.int .i64 ((rd_T29 l0 (ji63)).f1)) ∧ w'.cell? ⟨(ad157.add (((ji63)).toNat * 3)).block, (ad157.add (((ji63)).toNat * 3)).off + 2, none⟩ = some (.bool ((rd_T29 l0 (ji63)).f2)) ∧ w'.cell? (ad157.add (((ji66)).toNat * 3)) = some (.string ((rd_T29 l0 (ji66)).f0)) ∧ w'.cell? ⟨(ad157.add (((ji66)).toNat * 3)).block, (ad157.add (((ji66)).toNat * 3)).off + 1, none⟩ = some (.int .i64 ((rd_T29 l0 (ji66)).f1)) ∧ w'.cell? ⟨(ad157.add (((ji66)).toNat * 3)).block, (ad157.add (((ji66)).toNat * 3)).off + 2, none⟩ = some (.bool ((rd_T29 l0 (ji66)).f2))) (ds := []) #[false, false, false, false, false, false, false, false, false, false, false, false, false, false] (by as_aux_lemma => kernel_rfl) rfl rfl ⟨hx157_0, hx157_1, hx157_2, hx158_0, hx158_1, hx158_2⟩ (fun hHeld => ?_); refine with_tabW slices_symMergeCmpFunc_api_Intent_at_outbox_Latest_1.tab35 slices_symMergeCmpFunc_api_Intent_at_outbox_Latest_1.bits35 (fun HT_ HW_ => ?_)
     generalize wr.drew = w71 at HO_0 HK HB hx157_0 hx157_1 hx157_2 hx158_0 hx158_1 hx158_2 hHeld ⊢
     refine pure_ (i := 0) (N := some 158) (v := ?_) (a' := ?_) #[true, false, false, false, false, false, false, false, false, false, false, false, false, false] rfl rfl (any_of HT_.out (by as_aux_lemma => kernel_rfl)) (fun _ _ _ h => h) (Or.inl ⟨by rfl, ?_⟩) ?_ ?_
     rotate_left
     ·intro w'
      go_simp
      with_reducible rfl
     rotate_left
     ·simp only [Act.put, sT, sZ, sS, i64_w, i32_w]
      rfl
     refine pure_ (i := 1) (N := some 159) (v := ?_) (a' := ?_) #[true, true, false, false, false, false, false, false, false, false, false, false, false, false] rfl rfl (any_of HT_.out (by as_aux_lemma => kernel_rfl)) (fun _ _ _ h => h) (Or.inl ⟨by rfl, ?_⟩) ?_ ?_
     rotate_left
     ·intro w'
      go_simp
      with_reducible rfl
     rotate_left
     ·simp only [Act.put, sT, sZ, sS, i64_w, i32_w]
      rfl
     refine pure_ (i := 2) (N := some 160) (v := ?_) (a' := ?_) #[true, true, true, false, false, false, false, false, false, false, false, false, false, false] rfl rfl (any_of HT_.out (by as_aux_lemma => kernel_rfl)) (fun _ _ _ h => h) (Or.inl ⟨by rfl, ?_⟩) ?_ ?_
     rotate_left
     ·intro w'
      go_simp
      with_reducible rfl
     rotate_left
     ·simp only [Act.put, sT, sZ, sS, i64_w, i32_w]
      rfl
     refine pure_ (i := 3) (N := some 161) (v := ?_) (a' := ?_) #[true, true, true, true, false, false, false, false, false, false, false, false, false, false] rfl rfl (any_of HT_.out (by as_aux_lemma => kernel_rfl)) (fun _ _ _ h => h) (Or.inl ⟨by rfl, ?_⟩) ?_ ?_
     rotate_left
     ·intro w'
      go_simp
      with_reducible rfl
     rotate_left
     ·simp only [Act.put, sT, sZ, sS, i64_w, i32_w]
      rfl
     refine pure_ (i := 4) (N := some 162) (v := ?_) (a' := ?_) #[true, true, true, true, true, false, false, false, false, false, false, false, false, false] rfl rfl (any_of HT_.out (by as_aux_lemma => kernel_rfl)) (fun _ _ _ h => h) (Or.inl ⟨by rfl, ?_⟩) ?_ ?_
     rotate_left
     ·intro w'
      go_simp
      with_reducible rfl
     rotate_left
     ·simp only [Act.put, sT, sZ, sS, i64_w, i32_w]
      rfl
     refine pure_ (i := 5) (N := some 163) (v := ?_) (a' := ?_) #[true, true, true, true, true, true, false, false, false, false, false, false, false, false] rfl rfl (any_of HT_.out (by as_aux_lemma => kernel_rfl)) (fun _ _ _ h => h) (Or.inl ⟨by rfl, ?_⟩) ?_ ?_
     rotate_left
     ·intro w'
      go_simp
      with_reducible rfl
     rotate_left
     ·simp only [Act.put, sT, sZ, sS, i64_w, i32_w]
      rfl
     refine pure_ (i := 7) (N := some 165) (v := ?_) (a' := ?_) #[true, true, true, true, true, true, false, true, false, false, false, false, false, false] rfl rfl (any_of HT_.out (by as_aux_lemma => kernel_rfl)) (fun _ _ _ h => h) (Or.inl ⟨by rfl, ?_⟩) ?_ ?_
     rotate_left
     ·intro w'
      go_simp
      with_reducible rfl
     rotate_left
     ·simp only [Act.put, sT, sZ, sS, i64_w, i32_w]
      rfl
     refine pure_ (i := 8) (N := some 166) (v := ?_) (a' := ?_) #[true, true, true, true, true, true, false, true, true, false, false, false, false, false] rfl rfl (any_of HT_.out (by as_aux_lemma => kernel_rfl)) (fun _ _ _ h => h) (Or.inl ⟨by rfl, ?_⟩) ?_ ?_
     rotate_left
     ·intro w'
      go_simp
      with_reducible rfl
     rotate_left
     ·simp only [Act.put, sT, sZ, sS, i64_w, i32_w]
      rfl
     refine pure_ (i := 9) (N := some 167) (v := ?_) (a' := ?_) #[true, true, true, true, true, true, false, true, true, true, false, false, false, false] rfl rfl (any_of HT_.out (by as_aux_lemma => kernel_rfl)) (fun _ _ _ h => h) (Or.inl ⟨by rfl, ?_⟩) ?_ ?_
     rotate_left
     ·intro w'
      go_simp
      with_reducible rfl
     rotate_left
     ·simp only [Act.put, sT, sZ, sS, i64_w, i32_w]
      rfl
     refine take_ (i := 6) (N := some 164) (v := ?_) (a' := ?_) #[true, true, true, true, true, true, true, true, true, true, false, false, false, false] rfl rfl (take_ofW HT_.out HW_.out (by as_aux_lemma => kernel_rfl)) (fun _ _ _ h => h) (Or.inl ⟨by rfl, ?_⟩) hHeld ?_ ?_
     rotate_left
     ·rintro w' ⟨s0, s1, s2, s3, s4, s5⟩
      go_simp
      with_reducible rfl
     rotate_left
     ·simp only [Act.put, sT, sZ, sS, i64_w, i32_w]
      rfl
     refine take_ (i := 10) (N := some 168) (v := ?_) (a' := ?_) #[true, true, true, true, true, true, true, true, true, true, true, false, false, false] rfl rfl (take_ofW HT_.out HW_.out (by as_aux_lemma => kernel_rfl)) (fun _ _ _ h => h) (Or.inl ⟨by rfl, ?_⟩) hHeld ?_ ?_
     rotate_left
     ·rintro w' ⟨s0, s1, s2, s3, s4, s5⟩
      go_simp
      with_reducible rfl
     rotate_left
     ·simp only [Act.put, sT, sZ, sS, i64_w, i32_w]
      rfl
     refine one_ (i := 11) (N := some 169) #[true, true, true, true, true, true, true, true, true, true, true, true, false, false] rfl rfl (one_of HT_.out (by as_aux_lemma => kernel_rfl)) (by decide) (fun K hK => ?_)
     refine goesV Try.func30 (by as_aux_lemma => kernel_rfl) rfl #[.agg #[.string ((rd_T29 l0 (ji63)).f0), .int .i64 ((rd_T29 l0 (ji63)).f1), .bool ((rd_T29 l0 (ji63)).f2)], .agg #[.string ((rd_T29 l0 (ji66)).f0), .int .i64 ((rd_T29 l0 (ji66)).f1), .bool ((rd_T29 l0 (ji66)).f2)]] (by rfl) rfl rfl (by (try simp only [List.map_toArray, List.map_cons, List.map_nil]); first | done | (simp only [hji63, hji66]; rfl) | rfl | (simp only [List.length_drop, List.length_take]; rfl)) ?_
     with_reducible refine (outbox_Latest_1_v158.calls k2 ((rd_T29 l0 (ji63)).f0) ((rd_T29 l0 (ji63)).f1) ((rd_T29 l0 (ji63)).f2) ((rd_T29 l0 (ji66)).f0) ((rd_T29 l0 (ji66)).f1) ((rd_T29 l0 (ji66)).f2) t159 _ A69.out).mono ?_
     rintro e w73 ⟨rfl, hb⟩
     have HS0_ := (hb.cell (World.block_lt_of_cell? _ _ (hHeld.1))).trans (hHeld.1)
     have HS1_ := (hb.cell (World.block_lt_of_cell? _ _ (hHeld.2.1))).trans (hHeld.2.1)
     have HS2_ := (hb.cell (World.block_lt_of_cell? _ _ (hHeld.2.2.1))).trans (hHeld.2.2.1)
     have HS3_ := (hb.cell (World.block_lt_of_cell? _ _ (hHeld.2.2.2.1))).trans (hHeld.2.2.2.1)
     have HS4_ := (hb.cell (World.block_lt_of_cell? _ _ (hHeld.2.2.2.2.1))).trans (hHeld.2.2.2.2.1)
     have HS5_ := (hb.cell (World.block_lt_of_cell? _ _ (hHeld.2.2.2.2.2))).trans (hHeld.2.2.2.2.2)
     refine ⟨_, rfl, ?_⟩
     have n0_ := Aside0.mk (Kd.R_below (rL HO_0.out) hb)
     have n1_ := Aside0.mk (Kept.below (S := (fun k_ => P0_ k_)) (by repeat (first | (with_reducible first | exact HK.out | apply Kept.alloc | apply Kept.drewN | apply Kept.drew) | exact HK.out)) hb)
     have n2_ := Aside0.mk (below_step (hL HB.out) hb)
     clear HO_0
     clear HK
     clear HB
     have HO_0 := n0_
     have HK := n1_
     have HB := n2_
     clear n0_ n1_ n2_
     (try clear hb)
     (try clear hb2)
     (try clear hk)
     (try clear hi)
     refine hK.out _ _ ⟨HS0_, HS1_, HS2_, HS3_, HS4_, HS5_⟩ (fun hHeld => ?_)
     clear hK K
     refine norm_ (a' := ?_) ?_ ?_
     rotate_left
     ·show Act.put _ (some 169) _ = _
      simp only [Act.put, sT, sZ, sS, i64_w, i32_w]
      rfl
     refine pure_ (i := 12) (N := some 170) (v := ?_) (a' := ?_) #[true, true, true, true, true, true, true, true, true, true, true, true, true, false] rfl rfl (any_of HT_.out (by as_aux_lemma => kernel_rfl)) (fun _ _ _ h => h) (Or.inl ⟨by rfl, ?_⟩) ?_ ?_
     rotate_left
     ·intro w'
      go_simp
      with_reducible rfl
     rotate_left
     ·simp only [Act.put, sT, sZ, sS, i64_w, i32_w]
      rfl
     refine pure_ (i := 13) (N := some 171) (v := ?_) (a' := ?_) #[true, true, true, true, true, true, true, true, true, true, true, true, true, true] rfl rfl (any_of HT_.out (by as_aux_lemma => kernel_rfl)) (fun _ _ _ h => h) (Or.inl ⟨by rfl, ?_⟩) ?_ ?_
     rotate_left
     ·intro w'
      go_simp
      with_reducible rfl
     rotate_left
     ·simp only [Act.put, sT, sZ, sS, i64_w, i32_w]
      rfl
     refine done_ (done_of HT_.out (by as_aux_lemma => kernel_rfl)) ?_
     try go_wp2
     go_roundg k2
     case measure => have := HJ59.out; have := HK2.out; omega
     case rel => exact ⟨(x20_2), (ji66), (by first | rfl | (simp; done) | (simp [*]; done) | (simp [ne_nil_bytes]; done) | (simp [eq_nil_bytes]; done)), (by first | rfl | (simp; done) | (simp only [← hji66] <;> (first | rfl | simp)) | (simp [*]; done)), H', ⟨by have := HJ59.out; have := HK2.out; omega⟩, ⟨by exact rL HO_0.out⟩, ⟨by repeat (first | (with_reducible first | exact HK.out | apply Kept.alloc | apply Kept.drewN | apply Kept.drew) | exact HK.out)⟩, ⟨hL HB.out⟩⟩
    rw [if_neg c70] at H
    have c70b0 : decide (t159 < 0) = false := decide_eq_false c70
    clear c70
    have H' := Aside0.mk H
    clear H
    try go_wp2
    have n0_ := Aside0.mk (Kd.R_drew HO_0.out)
    have n1_ := Aside0.mk (Kept.drew HK.out)
    have n2_ := Aside0.mk (below_drew1 HB.out)
    clear HO_0
    clear HK
    clear HB
    have HO_0 := n0_
    have HK := n1_
    have HB := n2_
    clear n0_ n1_ n2_
    obtain ⟨Ao75, co75, eo75⟩ := Kd.R_slice HO_0.out
    (first | subst eo75 | (injection eo75 with f1_ f2_ f3_; have f4_ := f1_.symm; have f5_ := f3_.symm; clear f1_ f2_ f3_; subst f4_; subst f5_))
    have p157 : 0 ≤ ((ji63) : Int) := of_decide_eq_true (by first | (with_reducible assumption) | assumption)
    have q157 : (ji63) < (l0.length : Int) := of_decide_eq_true (by first | (with_reducible assumption) | assumption)
    obtain ⟨ad157, e157, hx157_0, hx157_1, hx157_2⟩ := at_T29 (Kd.R_reads' HO_0.out).2.2 (ji63) p157 q157
    cases e157
    replace p157 := eq_true p157
    replace q157 := eq_true q157
    have p158 : 0 ≤ ((ji66) : Int) := of_decide_eq_true (by first | (with_reducible assumption) | assumption)
    have q158 : (ji66) < (l0.length : Int) := of_decide_eq_true (by first | (with_reducible assumption) | assumption)
    obtain ⟨ad158, e158, hx158_0, hx158_1, hx158_2⟩ := at_T29 (Kd.R_reads' HO_0.out).2.2 (ji66) p158 q158
    obtain rfl : ad157 = ad158 := (by injection e158)
    replace p158 := eq_true p158
    replace q158 := eq_true q158
    refine start_ (n := 14) (S := fun w' => w'.cell? (ad157.add (((ji63)).toNat * 3)) = some (.string ((rd_T29 l0 (ji63)).f0)) ∧ w'.cell? ⟨(ad157.add (((ji63)).toNat * 3)).block, (ad157.add (((ji63)).toNat * 3)).off + 1, none⟩ = some (.int .i64 ((rd_T29 l0 (ji63)).f1)) ∧ w'.cell? ⟨(ad157.add (((ji63)).toNat * 3)).block, (ad157.add (((ji63)).toNat * 3)).off + 2, none⟩ = some (.bool ((rd_T29 l0 (ji63)).f2)) ∧ w'.cell? (ad157.add (((ji66)).toNat * 3)) = some (.string ((rd_T29 l0 (ji66)).f0)) ∧ w'.cell? ⟨(ad157.add (((ji66)).toNat * 3)).block, (ad157.add (((ji66)).toNat * 3)).off + 1, none⟩ = some (.int .i64 ((rd_T29 l0 (ji66)).f1)) ∧ w'.cell? ⟨(ad157.add (((ji66)).toNat * 3)).block, (ad157.add (((ji66)).toNat * 3)).off + 2, none⟩ = some (.bool ((rd_T29 l0 (ji66)).f2))) (ds := []) #[false, false, false, false, false, false, false, false, false, false, false, false, false, false] (by as_aux_lemma => kernel_rfl) rfl rfl ⟨hx157_0, hx157_1, hx157_2, hx158_0, hx158_1, hx158_2⟩ (fun hHeld => ?_); refine with_tabW slices_symMergeCmpFunc_api_Intent_at_outbox_Latest_1.tab35 slices_symMergeCmpFunc_api_Intent_at_outbox_Latest_1.bits35 (fun HT_ HW_ => ?_)
    generalize wr.drew = w74 at HO_0 HK HB hx157_0 hx157_1 hx157_2 hx158_0 hx158_1 hx158_2 hHeld ⊢
    refine pure_ (i := 0) (N := some 158) (v := ?_) (a' := ?_) #[true, false, false, false, false, false, false, false, false, false, false, false, false, false] rfl rfl (any_of HT_.out (by as_aux_lemma => kernel_rfl)) (fun _ _ _ h => h) (Or.inl ⟨by rfl, ?_⟩) ?_ ?_
    rotate_left
    ·intro w'
     go_simp
     with_reducible rfl
    rotate_left
    ·simp only [Act.put, sT, sZ, sS, i64_w, i32_w]
     rfl
    refine pure_ (i := 1) (N := some 159) (v := ?_) (a' := ?_) #[true, true, false, false, false, false, false, false, false, false, false, false, false, false] rfl rfl (any_of HT_.out (by as_aux_lemma => kernel_rfl)) (fun _ _ _ h => h) (Or.inl ⟨by rfl, ?_⟩) ?_ ?_
    rotate_left
    ·intro w'
     go_simp
     with_reducible rfl
    rotate_left
    ·simp only [Act.put, sT, sZ, sS, i64_w, i32_w]
     rfl
    refine pure_ (i := 2) (N := some 160) (v := ?_) (a' := ?_) #[true, true, true, false, false, false, false, false, false, false, false, false, false, false] rfl rfl (any_of HT_.out (by as_aux_lemma => kernel_rfl)) (fun _ _ _ h => h) (Or.inl ⟨by rfl, ?_⟩) ?_ ?_
    rotate_left
    ·intro w'
     go_simp
     with_reducible rfl
    rotate_left
    ·simp only [Act.put, sT, sZ, sS, i64_w, i32_w]
     rfl
    refine pure_ (i := 3) (N := some 161) (v := ?_) (a' := ?_) #[true, true, true, true, false, false, false, false, false, false, false, false, false, false] rfl rfl (any_of HT_.out (by as_aux_lemma => kernel_rfl)) (fun _ _ _ h => h) (Or.inl ⟨by rfl, ?_⟩) ?_ ?_
    rotate_left
    ·intro w'
     go_simp
     with_reducible rfl
    rotate_left
    ·simp only [Act.put, sT, sZ, sS, i64_w, i32_w]
     rfl
    refine pure_ (i := 4) (N := some 162) (v := ?_) (a' := ?_) #[true, true, true, true, true, false, false, false, false, false, false, false, false, false] rfl rfl (any_of HT_.out (by as_aux_lemma => kernel_rfl)) (fun _ _ _ h => h) (Or.inl ⟨by rfl, ?_⟩) ?_ ?_
    rotate_left
    ·intro w'
     go_simp
     with_reducible rfl
    rotate_left
    ·simp only [Act.put, sT, sZ, sS, i64_w, i32_w]
     rfl
    refine pure_ (i := 5) (N := some 163) (v := ?_) (a' := ?_) #[true, true, true, true, true, true, false, false, false, false, false, false, false, false] rfl rfl (any_of HT_.out (by as_aux_lemma => kernel_rfl)) (fun _ _ _ h => h) (Or.inl ⟨by rfl, ?_⟩) ?_ ?_
    rotate_left
    ·intro w'
     go_simp
     with_reducible rfl
    rotate_left
    ·simp only [Act.put, sT, sZ, sS, i64_w, i32_w]
     rfl
    refine pure_ (i := 7) (N := some 165) (v := ?_) (a' := ?_) #[true, true, true, true, true, true, false, true, false, false, false, false, false, false] rfl rfl (any_of HT_.out (by as_aux_lemma => kernel_rfl)) (fun _ _ _ h => h) (Or.inl ⟨by rfl, ?_⟩) ?_ ?_
    rotate_left
    ·intro w'
     go_simp
     with_reducible rfl
    rotate_left
    ·simp only [Act.put, sT, sZ, sS, i64_w, i32_w]
     rfl
    refine pure_ (i := 8) (N := some 166) (v := ?_) (a' := ?_) #[true, true, true, true, true, true, false, true, true, false, false, false, false, false] rfl rfl (any_of HT_.out (by as_aux_lemma => kernel_rfl)) (fun _ _ _ h => h) (Or.inl ⟨by rfl, ?_⟩) ?_ ?_
    rotate_left
    ·intro w'
     go_simp
     with_reducible rfl
    rotate_left
    ·simp only [Act.put, sT, sZ, sS, i64_w, i32_w]
     rfl
    refine pure_ (i := 9) (N := some 167) (v := ?_) (a' := ?_) #[true, true, true, true, true, true, false, true, true, true, false, false, false, false] rfl rfl (any_of HT_.out (by as_aux_lemma => kernel_rfl)) (fun _ _ _ h => h) (Or.inl ⟨by rfl, ?_⟩) ?_ ?_
    rotate_left
    ·intro w'
     go_simp
     with_reducible rfl
    rotate_left
    ·simp only [Act.put, sT, sZ, sS, i64_w, i32_w]
     rfl
    refine take_ (i := 6) (N := some 164) (v := ?_) (a' := ?_) #[true, true, true, true, true, true, true, true, true, true, false, false, false, false] rfl rfl (take_ofW HT_.out HW_.out (by as_aux_lemma => kernel_rfl)) (fun _ _ _ h => h) (Or.inl ⟨by rfl, ?_⟩) hHeld ?_ ?_
    rotate_left
    ·rintro w' ⟨s0, s1, s2, s3, s4, s5⟩
     go_simp
     with_reducible rfl
    rotate_left
    ·simp only [Act.put, sT, sZ, sS, i64_w, i32_w]
     rfl
    refine take_ (i := 10) (N := some 168) (v := ?_) (a' := ?_) #[true, true, true, true, true, true, true, true, true, true, true, false, false, false] rfl rfl (take_ofW HT_.out HW_.out (by as_aux_lemma => kernel_rfl)) (fun _ _ _ h => h) (Or.inl ⟨by rfl, ?_⟩) hHeld ?_ ?_
    rotate_left
    ·rintro w' ⟨s0, s1, s2, s3, s4, s5⟩
     go_simp
     with_reducible rfl
    rotate_left
    ·simp only [Act.put, sT, sZ, sS, i64_w, i32_w]
     rfl
    refine one_ (i := 11) (N := some 169) #[true, true, true, true, true, true, true, true, true, true, true, true, false, false] rfl rfl (one_of HT_.out (by as_aux_lemma => kernel_rfl)) (by decide) (fun K hK => ?_)
    refine goesV Try.func30 (by as_aux_lemma => kernel_rfl) rfl #[.agg #[.string ((rd_T29 l0 (ji63)).f0), .int .i64 ((rd_T29 l0 (ji63)).f1), .bool ((rd_T29 l0 (ji63)).f2)], .agg #[.string ((rd_T29 l0 (ji66)).f0), .int .i64 ((rd_T29 l0 (ji66)).f1), .bool ((rd_T29 l0 (ji66)).f2)]] (by rfl) rfl rfl (by (try simp only [List.map_toArray, List.map_cons, List.map_nil]); first | done | (simp only [hji63, hji66]; rfl) | rfl | (simp only [List.length_drop, List.length_take]; rfl)) ?_
    with_reducible refine (outbox_Latest_1_v158.calls k2 ((rd_T29 l0 (ji63)).f0) ((rd_T29 l0 (ji63)).f1) ((rd_T29 l0 (ji63)).f2) ((rd_T29 l0 (ji66)).f0) ((rd_T29 l0 (ji66)).f1) ((rd_T29 l0 (ji66)).f2) t159 _ A69.out).mono ?_
    rintro e w76 ⟨rfl, hb⟩
    have HS0_ := (hb.cell (World.block_lt_of_cell? _ _ (hHeld.1))).trans (hHeld.1)
    have HS1_ := (hb.cell (World.block_lt_of_cell? _ _ (hHeld.2.1))).trans (hHeld.2.1)
    have HS2_ := (hb.cell (World.block_lt_of_cell? _ _ (hHeld.2.2.1))).trans (hHeld.2.2.1)
    have HS3_ := (hb.cell (World.block_lt_of_cell? _ _ (hHeld.2.2.2.1))).trans (hHeld.2.2.2.1)
    have HS4_ := (hb.cell (World.block_lt_of_cell? _ _ (hHeld.2.2.2.2.1))).trans (hHeld.2.2.2.2.1)
    have HS5_ := (hb.cell (World.block_lt_of_cell? _ _ (hHeld.2.2.2.2.2))).trans (hHeld.2.2.2.2.2)
    refine ⟨_, rfl, ?_⟩
    have n0_ := Aside0.mk (Kd.R_below (rL HO_0.out) hb)
    have n1_ := Aside0.mk (Kept.below (S := (fun k_ => P0_ k_)) (by repeat (first | (with_reducible first | exact HK.out | apply Kept.alloc | apply Kept.drewN | apply Kept.drew) | exact HK.out)) hb)
    have n2_ := Aside0.mk (below_step (hL HB.out) hb)
    clear HO_0
    clear HK
    clear HB
    have HO_0 := n0_
    have HK := n1_
    have HB := n2_
    clear n0_ n1_ n2_
    (try clear hb)
    (try clear hb2)
    (try clear hk)
    (try clear hi)
    refine hK.out _ _ ⟨HS0_, HS1_, HS2_, HS3_, HS4_, HS5_⟩ (fun hHeld => ?_)
    clear hK K
    refine norm_ (a' := ?_) ?_ ?_
    rotate_left
    ·show Act.put _ (some 169) _ = _
     simp only [Act.put, sT, sZ, sS, i64_w, i32_w]
     rfl
    refine pure_ (i := 12) (N := some 170) (v := ?_) (a' := ?_) #[true, true, true, true, true, true, true, true, true, true, true, true, true, false] rfl rfl (any_of HT_.out (by as_aux_lemma => kernel_rfl)) (fun _ _ _ h => h) (Or.inl ⟨by rfl, ?_⟩) ?_ ?_
    rotate_left
    ·intro w'
     go_simp
     with_reducible rfl
    rotate_left
    ·simp only [Act.put, sT, sZ, sS, i64_w, i32_w]
     rfl
    refine pure_ (i := 13) (N := some 171) (v := ?_) (a' := ?_) #[true, true, true, true, true, true, true, true, true, true, true, true, true, true] rfl rfl (any_of HT_.out (by as_aux_lemma => kernel_rfl)) (fun _ _ _ h => h) (Or.inl ⟨by rfl, ?_⟩) ?_ ?_
    rotate_left
    ·intro w'
     go_simp
     with_reducible rfl
    rotate_left
    ·simp only [Act.put, sT, sZ, sS, i64_w, i32_w]
     rfl
    refine done_ (done_of HT_.out (by as_aux_lemma => kernel_rfl)) ?_
    try go_wp2
    go_roundg k2
    case measure => have := HJ59.out; have := HK2.out; omega
    case rel => exact ⟨(wrap64 ((ji66) + 1)), (x21_2), (by first | rfl | (simp; done) | (simp only [← hji66] <;> (first | rfl | simp)) | (simp [*]; done)), (by first | rfl | (simp; done) | (simp [*]; done) | (simp [ne_nil_bytes]; done) | (simp [eq_nil_bytes]; done)), H', ⟨by have := HJ59.out; have := HK2.out; omega⟩, ⟨by exact rL HO_0.out⟩, ⟨by repeat (first | (with_reducible first | exact HK.out | apply Kept.alloc | apply Kept.drewN | apply Kept.drew) | exact HK.out)⟩, ⟨hL HB.out⟩⟩
   rw [if_neg c62] at H
   have c62b0 : decide (x20_2 < x21_2) = false := decide_eq_false c62
   clear c62
   have HC77 := Aside0.mk H
   clear H
   go_upto_region 39 with (fail)
   go_cut [185] (fun v185 wc => ∃ (kq : Nat) (x185_76 : Bool), v185 = .bool x185_76 ∧ Aside0 (slices_symMergeCmpFunc_api_Intent_at_outbox_Latest_1.j6 kq l0 a1 a2 a3 (wrap64 ((IntKind.u64.wrap (wrap64 (a1 + a3))) / 2)) x20_2 (wrap64 ((wrap64 ((wrap64 ((IntKind.u64.wrap (wrap64 (a1 + a3))) / 2)) + a2)) - x20_2)) x185_76 = some r) ∧ Aside0 (kq ≤ k2) ∧ Aside0 (Kd.R k29 29 wc w0.heap.size (fun k_ => (P0_ k_ ∨ w.heap.size ≤ k_)) u9000_ l0) ∧ Aside0 (Kept w wc (fun k_ => P0_ k_)) ∧ Aside0 (Below w0.heap.size w0 wc))
   case first =>
    have H := HC77.out
    clear HC77
    by_cases c78 : x20_2 < a2
    rotate_left
    ·rw [if_neg c78] at H
     have c78b0 : decide (x20_2 < a2) = false := decide_eq_false c78
     clear c78
     (first | rw [c78b0] | (simp only [i64_w, i32_w]; rw [c78b0]) | skip)
     have H' := Aside0.mk H
     clear H
     go_wp2
     go_meet
     case rel => exact ⟨_, (false), (by first | rfl | (simp; done) | (simp [*]; done) | (simp [ne_nil_bytes]; done) | (simp [eq_nil_bytes]; done)), H', ⟨by have := HJ59.out; have := HK2.out; first | omega | exact Nat.le_refl _⟩, ⟨by exact rL HO_0.out⟩, ⟨by repeat (first | (with_reducible first | exact HK.out | apply Kept.alloc | apply Kept.drewN | apply Kept.drew) | exact HK.out)⟩, ⟨hL HB.out⟩⟩
    rw [if_pos c78] at H
    have c78b0 : decide (x20_2 < a2) = true := decide_eq_true c78
    clear c78
    (first | rw [c78b0] | (simp only [i64_w, i32_w]; rw [c78b0]) | skip)
    have H' := Aside0.mk H
    clear H
    go_wp2
    go_meet
    case rel => exact ⟨_, (decide (a2 < (wrap64 ((wrap64 ((wrap64 ((IntKind.u64.wrap (wrap64 (a1 + a3))) / 2)) + a2)) - x20_2)))), (by first | rfl | (simp; done) | (simp [*]; done) | (simp [ne_nil_bytes]; done) | (simp [eq_nil_bytes]; done)), H', ⟨by have := HJ59.out; have := HK2.out; first | omega | exact Nat.le_refl _⟩, ⟨by exact rL HO_0.out⟩, ⟨by repeat (first | (with_reducible first | exact HK.out | apply Kept.alloc | apply Kept.drewN | apply Kept.drew) | exact HK.out)⟩, ⟨hL HB.out⟩⟩
   as_aux_lemma =>
    clear HC77
    try clear c1
    try clear p1
    try clear q1
    try clear hx1
    try clear c2
    try clear p2
    try clear q2
    try clear hx2
    try clear c3
    try clear c4
    try clear c5
    try clear p5
    try clear q5
    try clear hx5
    try clear hf5
    try clear c6
    try clear c6b0
    try clear c6b0z
    try clear c6b1
    try clear c6b1z
    try clear p6
    try clear c7
    try clear c7b0
    try clear c7b0z
    try clear c9
    try clear c9b0
    try clear c9b0z
    try clear c10
    try clear c10b0
    try clear c10b0z
    try clear c11
    try clear c11b0
    try clear c11b0z
    try clear c12
    try clear c12b0
    try clear c12b0z
    try clear c14
    try clear c14b0
    try clear c14b0z
    try clear p14
    try clear q14
    try clear hx14
    try clear p15
    try clear q15
    try clear hx15
    try clear c20
    try clear c21
    try clear c21b0
    try clear c21b0z
    try clear c23
    try clear c23b0
    try clear c23b0z
    try clear c24
    try clear c24b0
    try clear c24b0z
    try clear c25
    try clear c25b0
    try clear c25b0z
    try clear c26
    try clear c26b0
    try clear c26b0z
    try clear c27
    try clear p27
    try clear q27
    try clear hx27
    try clear hf27
    try clear c28
    try clear p28
    try clear q28
    try clear hx28
    try clear hf28
    try clear c31
    try clear c32
    try clear c33
    try clear c33b0
    try clear c33b0z
    try clear c33b1
    try clear c33b1z
    try clear c34
    try clear c34b0
    try clear c34b0z
    try clear c35
    try clear c35b0
    try clear c35b0z
    try clear c36
    try clear c36b0
    try clear c36b0z
    try clear c38
    try clear c38b0
    try clear c38b0z
    try clear c39
    try clear c39b0
    try clear c39b0z
    try clear c41
    try clear c41b0
    try clear c41b0z
    try clear c48
    try clear c48b0
    try clear c48b0z
    try clear c50
    try clear c50b0
    try clear c50b0z
    try clear c51
    try clear c51b0
    try clear c51b0z
    try clear c52
    try clear c52b0
    try clear c52b0z
    try clear c53
    try clear c53b0
    try clear c53b0z
    try clear c54
    try clear p54
    try clear q54
    try clear hx54
    try clear hf54
    try clear c55
    try clear p55
    try clear q55
    try clear hx55
    try clear hf55
    try clear c58
    try clear c59
    try clear c61
    try clear c61b0
    try clear c61b0z
    try clear c62
    try clear c62b0
    try clear c62b0z
    try clear c64
    try clear c64b0
    try clear c64b0z
    try clear p64
    try clear c65
    try clear c65b0
    try clear c65b0z
    try clear c67
    try clear c67b0
    try clear c67b0z
    try clear c68
    try clear c68b0
    try clear c68b0z
    try clear c70
    try clear c70b0
    try clear c70b0z
    try clear c78
    try clear c78b0
    try clear c78b0z
    try clear hx143_0
    try clear hx143_1
    try clear hx143_2
    try clear hx144_0
    try clear hx144_1
    try clear hx144_2
    try clear hx146_0
    try clear hx146_1
    try clear hx146_2
    try clear hx147_0
    try clear hx147_1
    try clear hx147_2
    try clear hx150_0
    try clear hx150_1
    try clear hx150_2
    try clear hx151_0
    try clear hx151_1
    try clear hx151_2
    try clear hx153_0
    try clear hx153_1
    try clear hx153_2
    try clear hx154_0
    try clear hx154_1
    try clear hx154_2
    try clear hx157_0
    try clear hx157_1
    try clear hx157_2
    try clear hx158_0
    try clear hx158_1
    try clear hx158_2
    try clear hx27_0
    try clear hx27_1
    try clear hx27_2
    try clear hx28_0
    try clear hx28_1
    try clear hx28_2
    try clear hx54_0
    try clear hx54_1
    try clear hx54_2
    try clear hx55_0
    try clear hx55_1
    try clear hx55_2
    try clear p1
    try clear p14
    try clear p143
    try clear p144
    try clear p146
    try clear p147
    try clear p15
    try clear p150
    try clear p151
    try clear p153
    try clear p154
    try clear p157
    try clear p158
    try clear p2
    try clear p27
    try clear p28
    try clear p5
    try clear p54
    try clear p55
    try clear p6
    try clear q1
    try clear q14
    try clear q143
    try clear q144
    try clear q146
    try clear q147
    try clear q15
    try clear q150
    try clear q151
    try clear q153
    try clear q154
    try clear q157
    try clear q158
    try clear q2
    try clear q27
    try clear q28
    try clear q5
    try clear q54
    try clear q55
    obtain ⟨kq, x185_76, rfl, HA, HJ76, HO_0, HK, HB⟩ := hcut
    rcases kq with _ | kj76
    ·exact absurd HA.out (by simp [slices_symMergeCmpFunc_api_Intent_at_outbox_Latest_1.j6])
    have H := HA.out
    clear HA
    simp only [slices_symMergeCmpFunc_api_Intent_at_outbox_Latest_1.j6] at H
    have HC79 := Aside0.mk H
    clear H
    go_upto_if 185 with (fail)
    go_cut [] (fun wc => ∃ (kq : Nat) (x0_78 : List (S29)), Aside0 (slices_symMergeCmpFunc_api_Intent_at_outbox_Latest_1.j7 kq x0_78 a1 a3 (wrap64 ((IntKind.u64.wrap (wrap64 (a1 + a3))) / 2)) x20_2 (wrap64 ((wrap64 ((wrap64 ((IntKind.u64.wrap (wrap64 (a1 + a3))) / 2)) + a2)) - x20_2)) = some r) ∧ Aside0 (kq ≤ kj76) ∧ Aside0 (Kd.R k29 29 wc w0.heap.size (fun k_ => (P0_ k_ ∨ w.heap.size ≤ k_)) u9000_ x0_78) ∧ Aside0 (Kept w wc (fun k_ => P0_ k_)) ∧ Aside0 (Below w0.heap.size w0 wc))
    case first =>
     have H := HC79.out
     clear HC79
     by_cases c80 : x185_76 = true
     rotate_left
     ·replace c80 := Bool.eq_false_iff.mpr c80
      subst c80
      have H1 : (slices_symMergeCmpFunc_api_Intent_at_outbox_Latest_1.j7 kj76 l0 a1 a3 (wrap64 ((IntKind.u64.wrap (wrap64 (a1 + a3))) / 2)) x20_2 (wrap64 ((wrap64 ((wrap64 ((IntKind.u64.wrap (wrap64 (a1 + a3))) / 2)) + a2)) - x20_2))) = some r := by rw [if_neg (show ¬ (false = true) by decide)] at H; exact H
      clear H
      have H := H1
      clear H1
      have H' := Aside0.mk H
      clear H
      go_wp2
      go_meet
      case rel => exact ⟨_, (l0), H', ⟨by have := HJ59.out; have := HK2.out; have := HJ76.out; first | omega | exact Nat.le_refl _⟩, ⟨by exact rL HO_0.out⟩, ⟨by repeat (first | (with_reducible first | exact HK.out | apply Kept.alloc | apply Kept.drewN | apply Kept.drew) | exact HK.out)⟩, ⟨hL HB.out⟩⟩
     subst c80
     have H1 : ((slices_rotateCmpFunc_api_Intent_at_outbox_Latest_1.f kj76 l0 x20_2 a2 (wrap64 ((wrap64 ((wrap64 ((IntKind.u64.wrap (wrap64 (a1 + a3))) / 2)) + a2)) - x20_2))).bind fun t160 => (slices_symMergeCmpFunc_api_Intent_at_outbox_Latest_1.j7 kj76 t160 a1 a3 (wrap64 ((IntKind.u64.wrap (wrap64 (a1 + a3))) / 2)) x20_2 (wrap64 ((wrap64 ((wrap64 ((IntKind.u64.wrap (wrap64 (a1 + a3))) / 2)) + a2)) - x20_2)))) = some r := by rw [if_pos rfl] at H; exact H
     clear H
     have H := H1
     clear H1
     replace H := Option.bind_eq_some_iff.mp H
     obtain ⟨t160, A810, H⟩ := H
     replace H : (slices_symMergeCmpFunc_api_Intent_at_outbox_Latest_1.j7 kj76 t160 a1 a3 (wrap64 ((IntKind.u64.wrap (wrap64 (a1 + a3))) / 2)) x20_2 (wrap64 ((wrap64 ((wrap64 ((IntKind.u64.wrap (wrap64 (a1 + a3))) / 2)) + a2)) - x20_2))) = some r := H
     have A81 := Aside0.mk A810
     clear A810
     have H' := Aside0.mk H
     clear H
     obtain ⟨Ao82, co82, eo82⟩ := Kd.R_slice HO_0.out
     subst eo82
     go_wp2_with (first | ((with_reducible refine gate_callee (f := 77) rfl ?_); refine goesL_ (some 191) rfl rfl Try.func77 (by as_aux_lemma => kernel_rfl) rfl #[.slice Ao82 l0.length co82, .int .i64 x20_2, .int .i64 a2, .int .i64 (wrap64 ((wrap64 ((wrap64 ((IntKind.u64.wrap (wrap64 (a1 + a3))) / 2)) + a2)) - x20_2)), .func (.func 30) #[] #[]] rfl (by (try simp only [List.map_toArray, List.map_cons, List.map_nil]); first | done | rfl | (simp only [List.length_drop, List.length_take]; rfl)) ?_; (with_reducible refine (slices_rotateCmpFunc_api_Intent_at_outbox_Latest_1.calls kj76 (fun k_ => some k_ = (.slice Ao82 l0.length co82 : Value).ownBlock) (.slice Ao82 l0.length co82) l0 x20_2 a2 (wrap64 ((wrap64 ((wrap64 ((IntKind.u64.wrap (wrap64 (a1 + a3))) / 2)) + a2)) - x20_2))  t160 w0 _ ?side1 ?side2 A81.out).mono ?_); (case side1 => repeat (first | (with_reducible first | exact HB.out | apply below_alloc | apply pw_below_drewN | apply below_drew1) | exact HB.out)); (case side2 => exact Kd.R_tight rfl HO_0.out); rintro e w83 ⟨rfl, hy0, hb, hkp⟩; refine ⟨_, rfl, ?_⟩; have n0_ := Aside0.mk (Kd.R_reok rfl hy0 (fun k_ e_ => HO_0.out.1 k_ e_)); have n1_ := Aside0.mk (Kept.then_ (S := (fun k_ => P0_ k_)) (by repeat (first | (with_reducible first | exact HK.out | apply Kept.alloc | apply Kept.drewN | apply Kept.drew) | exact HK.out)) hkp (fun k_ hs_ => (fun e_ => (HO_0.out.1 k_ e_.symm)) hs_)); have n2_ := Aside0.mk (hb); clear HO_0; clear HK; clear HB; have HO_0 := n0_; have HK := n1_; have HB := n2_; clear n0_ n1_ n2_; (try clear hb); (try clear hkp); (try clear hy0)))
     go_meet
     case rel => exact ⟨_, (t160), H', ⟨by have := HJ59.out; have := HK2.out; have := HJ76.out; first | omega | exact Nat.le_refl _⟩, ⟨by exact rL HO_0.out⟩, ⟨by repeat (first | (with_reducible first | exact HK.out | apply Kept.alloc | apply Kept.drewN | apply Kept.drew) | exact HK.out)⟩, ⟨hL HB.out⟩⟩
    as_aux_lemma =>
     clear HC79
     try clear c1
     try clear p1
     try clear q1
     try clear hx1
     try clear c2
     try clear p2
     try clear q2
     try clear hx2
     try clear c3
     try clear c4
     try clear c5
     try clear p5
     try clear q5
     try clear hx5
     try clear hf5
     try clear c6
     try clear c6b0
     try clear c6b0z
     try clear c6b1
     try clear c6b1z
     try clear p6
     try clear c7
     try clear c7b0
     try clear c7b0z
     try clear c8
     try clear c9
     try clear c9b0
     try clear c9b0z
     try clear c10
     try clear c10b0
     try clear c10b0z
     try clear c11
     try clear c11b0
     try clear c11b0z
     try clear c12
     try clear c12b0
     try clear c12b0z
     try clear c14
     try clear c14b0
     try clear c14b0z
     try clear p14
     try clear q14
     try clear hx14
     try clear p15
     try clear q15
     try clear hx15
     try clear c20
     try clear c21
     try clear c21b0
     try clear c21b0z
     try clear c23
     try clear c23b0
     try clear c23b0z
     try clear c24
     try clear c24b0
     try clear c24b0z
     try clear c25
     try clear c25b0
     try clear c25b0z
     try clear c26
     try clear c26b0
     try clear c26b0z
     try clear c27
     try clear p27
     try clear q27
     try clear hx27
     try clear hf27
     try clear c28
     try clear p28
     try clear q28
     try clear hx28
     try clear hf28
     try clear c31
     try clear c32
     try clear c33
     try clear c33b0
     try clear c33b0z
     try clear c33b1
     try clear c33b1z
     try clear c34
     try clear c34b0
     try clear c34b0z
     try clear c35
     try clear c35b0
     try clear c35b0z
     try clear c36
     try clear c36b0
     try clear c36b0z
     try clear c38
     try clear c38b0
     try clear c38b0z
     try clear c39
     try clear c39b0
     try clear c39b0z
     try clear c41
     try clear c41b0
     try clear c41b0z
     try clear c48
     try clear c48b0
     try clear c48b0z
     try clear c50
     try clear c50b0
     try clear c50b0z
     try clear c51
     try clear c51b0
     try clear c51b0z
     try clear c52
     try clear c52b0
     try clear c52b0z
     try clear c53
     try clear c53b0
     try clear c53b0z
     try clear c54
     try clear p54
     try clear q54
     try clear hx54
     try clear hf54
     try clear c55
     try clear p55
     try clear q55
     try clear hx55
     try clear hf55
     try clear c58
     try clear c59
     try clear c61
     try clear c61b0
     try clear c61b0z
     try clear c62
     try clear c62b0
     try clear c62b0z
     try clear c64
     try clear c64b0
     try clear c64b0z
     try clear p64
     try clear c65
     try clear c65b0
     try clear c65b0z
     try clear c67
     try clear c67b0
     try clear c67b0z
     try clear c68
     try clear c68b0
     try clear c68b0z
     try clear c70
     try clear c70b0
     try clear c70b0z
     try clear c78
     try clear c78b0
     try clear c78b0z
     try clear c80
     try clear hx143_0
     try clear hx143_1
     try clear hx143_2
     try clear hx144_0
     try clear hx144_1
     try clear hx144_2
     try clear hx146_0
     try clear hx146_1
     try clear hx146_2
     try clear hx147_0
     try clear hx147_1
     try clear hx147_2
     try clear hx150_0
     try clear hx150_1
     try clear hx150_2
     try clear hx151_0
     try clear hx151_1
     try clear hx151_2
     try clear hx153_0
     try clear hx153_1
     try clear hx153_2
     try clear hx154_0
     try clear hx154_1
     try clear hx154_2
     try clear hx157_0
     try clear hx157_1
     try clear hx157_2
     try clear hx158_0
     try clear hx158_1
     try clear hx158_2
     try clear hx27_0
     try clear hx27_1
     try clear hx27_2
     try clear hx28_0
     try clear hx28_1
     try clear hx28_2
     try clear hx54_0
     try clear hx54_1
     try clear hx54_2
     try clear hx55_0
     try clear hx55_1
     try clear hx55_2
     try clear p1
     try clear p14
     try clear p143
     try clear p144
     try clear p146
     try clear p147
     try clear p15
     try clear p150
     try clear p151
     try clear p153
     try clear p154
     try clear p157
     try clear p158
     try clear p2
     try clear p27
     try clear p28
     try clear p5
     try clear p54
     try clear p55
     try clear p6
     try clear p64
     try clear q1
     try clear q14
     try clear q143
     try clear q144
     try clear q146
     try clear q147
     try clear q15
     try clear q150
     try clear q151
     try clear q153
     try clear q154
     try clear q157
     try clear q158
     try clear q2
     try clear q27
     try clear q28
     try clear q5
     try clear q54
     try clear q55
     obtain ⟨kq, x0_78, HA, HJ78, HO_0, HK, HB⟩ := hcut
     rcases kq with _ | kj78
     ·exact absurd HA.out (by simp [slices_symMergeCmpFunc_api_Intent_at_outbox_Latest_1.j7])
     have H := HA.out
     clear HA
     simp only [slices_symMergeCmpFunc_api_Intent_at_outbox_Latest_1.j7] at H
     have HC84 := Aside0.mk H
     clear H
     go_upto_region 41 with (fail)
     go_cut [199] (fun v199 wc => ∃ (kq : Nat) (x199_83 : Bool), v199 = .bool x199_83 ∧ Aside0 (slices_symMergeCmpFunc_api_Intent_at_outbox_Latest_1.j8 kq x0_78 a1 a3 (wrap64 ((IntKind.u64.wrap (wrap64 (a1 + a3))) / 2)) x20_2 (wrap64 ((wrap64 ((wrap64 ((IntKind.u64.wrap (wrap64 (a1 + a3))) / 2)) + a2)) - x20_2)) x199_83 = some r) ∧ Aside0 (kq ≤ kj78) ∧ Aside0 (Kd.R k29 29 wc w0.heap.size (fun k_ => (P0_ k_ ∨ w.heap.size ≤ k_)) u9000_ x0_78) ∧ Aside0 (Kept w wc (fun k_ => P0_ k_)) ∧ Aside0 (Below w0.heap.size w0 wc))
     case first =>
      have H := HC84.out
      clear HC84
      by_cases c85 : a1 < x20_2
      rotate_left
      ·rw [if_neg c85] at H
       have c85b0 : decide (a1 < x20_2) = false := decide_eq_false c85
       clear c85
       (first | rw [c85b0] | (simp only [i64_w, i32_w]; rw [c85b0]) | skip)
       have H' := Aside0.mk H
       clear H
       go_wp2
       go_meet
       case rel => exact ⟨_, (false), (by first | rfl | (simp; done) | (simp [*]; done) | (simp [ne_nil_bytes]; done) | (simp [eq_nil_bytes]; done)), H', ⟨by have := HJ59.out; have := HK2.out; have := HJ76.out; have := HJ78.out; first | omega | exact Nat.le_refl _⟩, ⟨by exact rL HO_0.out⟩, ⟨by repeat (first | (with_reducible first | exact HK.out | apply Kept.alloc | apply Kept.drewN | apply Kept.drew) | exact HK.out)⟩, ⟨hL HB.out⟩⟩
      rw [if_pos c85] at H
      have c85b0 : decide (a1 < x20_2) = true := decide_eq_true c85
      clear c85
      (first | rw [c85b0] | (simp only [i64_w, i32_w]; rw [c85b0]) | skip)
      have H' := Aside0.mk H
      clear H
      go_wp2
      go_meet
      case rel => exact ⟨_, (decide (x20_2 < (wrap64 ((IntKind.u64.wrap (wrap64 (a1 + a3))) / 2)))), (by first | rfl | (simp; done) | (simp [*]; done) | (simp [ne_nil_bytes]; done) | (simp [eq_nil_bytes]; done)), H', ⟨by have := HJ59.out; have := HK2.out; have := HJ76.out; have := HJ78.out; first | omega | exact Nat.le_refl _⟩, ⟨by exact rL HO_0.out⟩, ⟨by repeat (first | (with_reducible first | exact HK.out | apply Kept.alloc | apply Kept.drewN | apply Kept.drew) | exact HK.out)⟩, ⟨hL HB.out⟩⟩
     as_aux_lemma =>
      clear HC84
      try clear c1
      try clear p1
      try clear q1
      try clear hx1
      try clear c2
      try clear p2
      try clear q2
      try clear hx2
      try clear c3
      try clear c4
      try clear c5
      try clear p5
      try clear q5
      try clear hx5
      try clear hf5
      try clear c6
      try clear c6b0
      try clear c6b0z
      try clear c6b1
      try clear c6b1z
      try clear p6
      try clear c7
      try clear c7b0
      try clear c7b0z
      try clear c8
      try clear c9
      try clear c9b0
      try clear c9b0z
      try clear c10
      try clear c10b0
      try clear c10b0z
      try clear c11
      try clear c11b0
      try clear c11b0z
      try clear c12
      try clear c12b0
      try clear c12b0z
      try clear c14
      try clear c14b0
      try clear c14b0z
      try clear p14
      try clear q14
      try clear hx14
      try clear p15
      try clear q15
      try clear hx15
      try clear c20
      try clear c21
      try clear c21b0
      try clear c21b0z
      try clear c23
      try clear c23b0
      try clear c23b0z
      try clear c24
      try clear c24b0
      try clear c24b0z
      try clear c25
      try clear c25b0
      try clear c25b0z
      try clear c26
      try clear c26b0
      try clear c26b0z
      try clear c27
      try clear p27
      try clear q27
      try clear hx27
      try clear hf27
      try clear c28
      try clear p28
      try clear q28
      try clear hx28
      try clear hf28
      try clear c31
      try clear c32
      try clear c33
      try clear c33b0
      try clear c33b0z
      try clear c33b1
      try clear c33b1z
      try clear c34
      try clear c34b0
      try clear c34b0z
      try clear c35
      try clear c35b0
      try clear c35b0z
      try clear c36
      try clear c36b0
      try clear c36b0z
      try clear c38
      try clear c38b0
      try clear c38b0z
      try clear c39
      try clear c39b0
      try clear c39b0z
      try clear c41
      try clear c41b0
      try clear c41b0z
      try clear c48
      try clear c48b0
      try clear c48b0z
      try clear c50
      try clear c50b0
      try clear c50b0z
      try clear c51
      try clear c51b0
      try clear c51b0z
      try clear c52
      try clear c52b0
      try clear c52b0z
      try clear c53
      try clear c53b0
      try clear c53b0z
      try clear c54
      try clear p54
      try clear q54
      try clear hx54
      try clear hf54
      try clear c55
      try clear p55
      try clear q55
      try clear hx55
      try clear hf55
      try clear c58
      try clear c59
      try clear c61
      try clear c61b0
      try clear c61b0z
      try clear c62
      try clear c62b0
      try clear c62b0z
      try clear c64
      try clear c64b0
      try clear c64b0z
      try clear p64
      try clear c65
      try clear c65b0
      try clear c65b0z
      try clear c67
      try clear c67b0
      try clear c67b0z
      try clear c68
      try clear c68b0
      try clear c68b0z
      try clear c70
      try clear c70b0
      try clear c70b0z
      try clear c78
      try clear c78b0
      try clear c78b0z
      try clear c80
      try clear c85
      try clear c85b0
      try clear c85b0z
      try clear hx143_0
      try clear hx143_1
      try clear hx143_2
      try clear hx144_0
      try clear hx144_1
      try clear hx144_2
      try clear hx146_0
      try clear hx146_1
      try clear hx146_2
      try clear hx147_0
      try clear hx147_1
      try clear hx147_2
      try clear hx150_0
      try clear hx150_1
      try clear hx150_2
      try clear hx151_0
      try clear hx151_1
      try clear hx151_2
      try clear hx153_0
      try clear hx153_1
      try clear hx153_2
      try clear hx154_0
      try clear hx154_1
      try clear hx154_2
      try clear hx157_0
      try clear hx157_1
      try clear hx157_2
      try clear hx158_0
      try clear hx158_1
      try clear hx158_2
      try clear hx27_0
      try clear hx27_1
      try clear hx27_2
      try clear hx28_0
      try clear hx28_1
      try clear hx28_2
      try clear hx54_0
      try clear hx54_1
      try clear hx54_2
      try clear hx55_0
      try clear hx55_1
      try clear hx55_2
      try clear p1
      try clear p14
      try clear p143
      try clear p144
      try clear p146
      try clear p147
      try clear p15
      try clear p150
      try clear p151
      try clear p153
      try clear p154
      try clear p157
      try clear p158
      try clear p2
      try clear p27
      try clear p28
      try clear p5
      try clear p54
      try clear p55
      try clear p6
      try clear p64
      try clear q1
      try clear q14
      try clear q143
      try clear q144
      try clear q146
      try clear q147
      try clear q15
      try clear q150
      try clear q151
      try clear q153
      try clear q154
      try clear q157
      try clear q158
      try clear q2
      try clear q27
      try clear q28
      try clear q5
      try clear q54
      try clear q55
      obtain ⟨kq, x199_83, rfl, HA, HJ83, HO_0, HK, HB⟩ := hcut
      rcases kq with _ | kj83
      ·exact absurd HA.out (by simp [slices_symMergeCmpFunc_api_Intent_at_outbox_Latest_1.j8])
      have H := HA.out
      clear HA
      simp only [slices_symMergeCmpFunc_api_Intent_at_outbox_Latest_1.j8] at H
      by_cases c86 : x199_83 = true
      rotate_left
      ·replace c86 := Bool.eq_false_iff.mpr c86
       subst c86
       have H1 : (if (wrap64 ((IntKind.u64.wrap (wrap64 (a1 + a3))) / 2)) < (wrap64 ((wrap64 ((wrap64 ((IntKind.u64.wrap (wrap64 (a1 + a3))) / 2)) + a2)) - x20_2)) then (if (wrap64 ((wrap64 ((wrap64 ((IntKind.u64.wrap (wrap64 (a1 + a3))) / 2)) + a2)) - x20_2)) < a3 then ((slices_symMergeCmpFunc_api_Intent_at_outbox_Latest_1.f kj83 x0_78 (wrap64 ((IntKind.u64.wrap (wrap64 (a1 + a3))) / 2)) (wrap64 ((wrap64 ((wrap64 ((IntKind.u64.wrap (wrap64 (a1 + a3))) / 2)) + a2)) - x20_2)) a3).bind fun t163 => (some t163)) else (some x0_78)) else (some x0_78)) = some r := by rw [if_neg (show ¬ (false = true) by decide)] at H; exact H
       clear H
       have H := H1
       clear H1
       by_cases c98 : (wrap64 ((IntKind.u64.wrap (wrap64 (a1 + a3))) / 2)) < (wrap64 ((wrap64 ((wrap64 ((IntKind.u64.wrap (wrap64 (a1 + a3))) / 2)) + a2)) - x20_2))
       rotate_left
       ·rw [if_neg c98] at H
        have c98b0 : decide ((wrap64 ((IntKind.u64.wrap (wrap64 (a1 + a3))) / 2)) < (wrap64 ((wrap64 ((wrap64 ((IntKind.u64.wrap (wrap64 (a1 + a3))) / 2)) + a2)) - x20_2))) = false := decide_eq_false c98
        clear c98
        obtain rfl := Option.some.inj H
        simp only [Option.some.injEq, Prod.mk.injEq] at H
        obtain ⟨rfl⟩ := H
        go_wp2
        first | go_end0 | ((try simp only [Exit.inBlock, Exit.then]); refine bodyPost_ret (results_none rfl _ _ _) rfl ?_)
        exact ⟨by first | rfl | (simp [errW_none, errW_some] <;> rfl) | (simp [*, errW_none, errW_some] <;> rfl), by exact rL HO_0.out, hL HB.out, by repeat (first | (with_reducible first | exact HK.out | apply Kept.alloc | apply Kept.drewN | apply Kept.drew) | exact HK.out)⟩
       rw [if_pos c98] at H
       have c98b0 : decide ((wrap64 ((IntKind.u64.wrap (wrap64 (a1 + a3))) / 2)) < (wrap64 ((wrap64 ((wrap64 ((IntKind.u64.wrap (wrap64 (a1 + a3))) / 2)) + a2)) - x20_2))) = true := decide_eq_true c98
       clear c98
       by_cases c99 : (wrap64 ((wrap64 ((wrap64 ((IntKind.u64.wrap (wrap64 (a1 + a3))) / 2)) + a2)) - x20_2)) < a3
       rotate_left
       ·rw [if_neg c99] at H
        have c99b0 : decide ((wrap64 ((wrap64 ((wrap64 ((IntKind.u64.wrap (wrap64 (a1 + a3))) / 2)) + a2)) - x20_2)) < a3) = false := decide_eq_false c99
        clear c99
        obtain rfl := Option.some.inj H
        simp only [Option.some.injEq, Prod.mk.injEq] at H
        obtain ⟨rfl⟩ := H
        go_wp2
        first | go_end0 | ((try simp only [Exit.inBlock, Exit.then]); refine bodyPost_ret (results_none rfl _ _ _) rfl ?_)
        exact ⟨by first | rfl | (simp [errW_none, errW_some] <;> rfl) | (simp [*, errW_none, errW_some] <;> rfl), by exact rL HO_0.out, hL HB.out, by repeat (first | (with_reducible first | exact HK.out | apply Kept.alloc | apply Kept.drewN | apply Kept.drew) | exact HK.out)⟩
       rw [if_pos c99] at H
       have c99b0 : decide ((wrap64 ((wrap64 ((wrap64 ((IntKind.u64.wrap (wrap64 (a1 + a3))) / 2)) + a2)) - x20_2)) < a3) = true := decide_eq_true c99
       clear c99
       replace H := Option.bind_eq_some_iff.mp H
       obtain ⟨t163, A1000, H⟩ := H
       replace H : (some t163) = some r := H
       have A100 := Aside0.mk A1000
       clear A1000
       obtain rfl := Option.some.inj H
       simp only [Option.some.injEq, Prod.mk.injEq] at H
       obtain ⟨rfl⟩ := H
       obtain ⟨Ao101, co101, eo101⟩ := Kd.R_slice HO_0.out
       subst eo101
       go_wp2_with (first | ((with_reducible refine gate_callee (f := 72) rfl ?_); refine goesL_ (some 219) rfl rfl Try.func72 (by as_aux_lemma => kernel_rfl) rfl #[.slice Ao101 x0_78.length co101, .int .i64 (wrap64 ((IntKind.u64.wrap (wrap64 (a1 + a3))) / 2)), .int .i64 (wrap64 ((wrap64 ((wrap64 ((IntKind.u64.wrap (wrap64 (a1 + a3))) / 2)) + a2)) - x20_2)), .int .i64 a3, .func (.func 30) #[] #[]] rfl (by (try simp only [List.map_toArray, List.map_cons, List.map_nil]); first | done | rfl | (simp only [List.length_drop, List.length_take]; rfl)) ?_; (with_reducible refine (ih kj83 (by have := HJ59.out; have := HK2.out; have := HJ76.out; have := HJ78.out; have := HJ83.out; omega) (fun k_ => some k_ = (.slice Ao101 x0_78.length co101 : Value).ownBlock) (.slice Ao101 x0_78.length co101) x0_78 (wrap64 ((IntKind.u64.wrap (wrap64 (a1 + a3))) / 2)) (wrap64 ((wrap64 ((wrap64 ((IntKind.u64.wrap (wrap64 (a1 + a3))) / 2)) + a2)) - x20_2)) a3  t163 w0 _ ?side1 ?side2 A100.out).mono ?_); (case side1 => repeat (first | (with_reducible first | exact HB.out | apply below_alloc | apply pw_below_drewN | apply below_drew1) | exact HB.out)); (case side2 => exact Kd.R_tight rfl HO_0.out); rintro e w102 ⟨rfl, hy0, hb, hkp⟩; refine ⟨_, rfl, ?_⟩; have n0_ := Aside0.mk (Kd.R_reok rfl hy0 (fun k_ e_ => HO_0.out.1 k_ e_)); have n1_ := Aside0.mk (Kept.then_ (S := (fun k_ => P0_ k_)) (by repeat (first | (with_reducible first | exact HK.out | apply Kept.alloc | apply Kept.drewN | apply Kept.drew) | exact HK.out)) hkp (fun k_ hs_ => (fun e_ => (HO_0.out.1 k_ e_.symm)) hs_)); have n2_ := Aside0.mk (hb); clear HO_0; clear HK; clear HB; have HO_0 := n0_; have HK := n1_; have HB := n2_; clear n0_ n1_ n2_; (try clear hb); (try clear hkp); (try clear hy0)))
       first | go_end0 | ((try simp only [Exit.inBlock, Exit.then]); refine bodyPost_ret (results_none rfl _ _ _) rfl ?_)
       exact ⟨by first | rfl | (simp [errW_none, errW_some] <;> rfl) | (simp [*, errW_none, errW_some] <;> rfl), by exact rL HO_0.out, hL HB.out, by repeat (first | (with_reducible first | exact HK.out | apply Kept.alloc | apply Kept.drewN | apply Kept.drew) | exact HK.out)⟩
      subst c86
      have H1 : ((slices_symMergeCmpFunc_api_Intent_at_outbox_Latest_1.f kj83 x0_78 a1 x20_2 (wrap64 ((IntKind.u64.wrap (wrap64 (a1 + a3))) / 2))).bind fun t161 => (if (wrap64 ((IntKind.u64.wrap (wrap64 (a1 + a3))) / 2)) < (wrap64 ((wrap64 ((wrap64 ((IntKind.u64.wrap (wrap64 (a1 + a3))) / 2)) + a2)) - x20_2)) then (if (wrap64 ((wrap64 ((wrap64 ((IntKind.u64.wrap (wrap64 (a1 + a3))) / 2)) + a2)) - x20_2)) < a3 then ((slices_symMergeCmpFunc_api_Intent_at_outbox_Latest_1.f kj83 t161 (wrap64 ((IntKind.u64.wrap (wrap64 (a1 + a3))) / 2)) (wrap64 ((wrap64 ((wrap64 ((IntKind.u64.wrap (wrap64 (a1 + a3))) / 2)) + a2)) - x20_2)) a3).bind fun t162 => (some t162)) else (some t161)) else (some t161))) = some r := by rw [if_pos rfl] at H; exact H
      clear H
      have H := H1
      clear H1
      replace H := Option.bind_eq_some_iff.mp H
      obtain ⟨t161, A870, H⟩ := H
      replace H : (if (wrap64 ((IntKind.u64.wrap (wrap64 (a1 + a3))) / 2)) < (wrap64 ((wrap64 ((wrap64 ((IntKind.u64.wrap (wrap64 (a1 + a3))) / 2)) + a2)) - x20_2)) then (if (wrap64 ((wrap64 ((wrap64 ((IntKind.u64.wrap (wrap64 (a1 + a3))) / 2)) + a2)) - x20_2)) < a3 then ((slices_symMergeCmpFunc_api_Intent_at_outbox_Latest_1.f kj83 t161 (wrap64 ((IntKind.u64.wrap (wrap64 (a1 + a3))) / 2)) (wrap64 ((wrap64 ((wrap64 ((IntKind.u64.wrap (wrap64 (a1 + a3))) / 2)) + a2)) - x20_2)) a3).bind fun t162 => (some t162)) else (some t161)) else (some t161)) = some r := H
      have A87 := Aside0.mk A870
      clear A870
      by_cases c88 : (wrap64 ((IntKind.u64.wrap (wrap64 (a1 + a3))) / 2)) < (wrap64 ((wrap64 ((wrap64 ((IntKind.u64.wrap (wrap64 (a1 + a3))) / 2)) + a2)) - x20_2))
      rotate_left
      ·rw [if_neg c88] at H
       have c88b0 : decide ((wrap64 ((IntKind.u64.wrap (wrap64 (a1 + a3))) / 2)) < (wrap64 ((wrap64 ((wrap64 ((IntKind.u64.wrap (wrap64 (a1 + a3))) / 2)) + a2)) - x20_2))) = false := decide_eq_false c88
       clear c88
       obtain rfl := Option.some.inj H
       simp only [Option.some.injEq, Prod.mk.injEq] at H
       obtain ⟨rfl⟩ := H
       obtain ⟨Ao96, co96, eo96⟩ := Kd.R_slice HO_0.out
       subst eo96
       go_wp2_with (first | ((with_reducible refine gate_callee (f := 72) rfl ?_); refine goesL_ (some 205) rfl rfl Try.func72 (by as_aux_lemma => kernel_rfl) rfl #[.slice Ao96 x0_78.length co96, .int .i64 a1, .int .i64 x20_2, .int .i64 (wrap64 ((IntKind.u64.wrap (wrap64 (a1 + a3))) / 2)), .func (.func 30) #[] #[]] rfl (by (try simp only [List.map_toArray, List.map_cons, List.map_nil]); first | done | rfl | (simp only [List.length_drop, List.length_take]; rfl)) ?_; (with_reducible refine (ih kj83 (by have := HJ59.out; have := HK2.out; have := HJ76.out; have := HJ78.out; have := HJ83.out; omega) (fun k_ => some k_ = (.slice Ao96 x0_78.length co96 : Value).ownBlock) (.slice Ao96 x0_78.length co96) x0_78 a1 x20_2 (wrap64 ((IntKind.u64.wrap (wrap64 (a1 + a3))) / 2))  t161 w0 _ ?side1 ?side2 A87.out).mono ?_); (case side1 => repeat (first | (with_reducible first | exact HB.out | apply below_alloc | apply pw_below_drewN | apply below_drew1) | exact HB.out)); (case side2 => exact Kd.R_tight rfl HO_0.out); rintro e w97 ⟨rfl, hy0, hb, hkp⟩; refine ⟨_, rfl, ?_⟩; have n0_ := Aside0.mk (Kd.R_reok rfl hy0 (fun k_ e_ => HO_0.out.1 k_ e_)); have n1_ := Aside0.mk (Kept.then_ (S := (fun k_ => P0_ k_)) (by repeat (first | (with_reducible first | exact HK.out | apply Kept.alloc | apply Kept.drewN | apply Kept.drew) | exact HK.out)) hkp (fun k_ hs_ => (fun e_ => (HO_0.out.1 k_ e_.symm)) hs_)); have n2_ := Aside0.mk (hb); clear HO_0; clear HK; clear HB; have HO_0 := n0_; have HK := n1_; have HB := n2_; clear n0_ n1_ n2_; (try clear hb); (try clear hkp); (try clear hy0)))
       first | go_end0 | ((try simp only [Exit.inBlock, Exit.then]); refine bodyPost_ret (results_none rfl _ _ _) rfl ?_)
       exact ⟨by first | rfl | (simp [errW_none, errW_some] <;> rfl) | (simp [*, errW_none, errW_some] <;> rfl), by exact rL HO_0.out, hL HB.out, by repeat (first | (with_reducible first | exact HK.out | apply Kept.alloc | apply Kept.drewN | apply Kept.drew) | exact HK.out)⟩
      rw [if_pos c88] at H
      have c88b0 : decide ((wrap64 ((IntKind.u64.wrap (wrap64 (a1 + a3))) / 2)) < (wrap64 ((wrap64 ((wrap64 ((IntKind.u64.wrap (wrap64 (a1 + a3))) / 2)) + a2)) - x20_2))) = true := decide_eq_true c88
      clear c88
      by_cases c89 : (wrap64 ((wrap64 ((wrap64 ((IntKind.u64.wrap (wrap64 (a1 + a3))) / 2)) + a2)) - x20_2)) < a3
      rotate_left
      ·rw [if_neg c89] at H
       have c89b0 : decide ((wrap64 ((wrap64 ((wrap64 ((IntKind.u64.wrap (wrap64 (a1 + a3))) / 2)) + a2)) - x20_2)) < a3) = false := decide_eq_false c89
       clear c89
       obtain rfl := Option.some.inj H
       simp only [Option.some.injEq, Prod.mk.injEq] at H
       obtain ⟨rfl⟩ := H
       obtain ⟨Ao94, co94, eo94⟩ := Kd.R_slice HO_0.out
       subst eo94
       go_wp2_with (first | ((with_reducible refine gate_callee (f := 72) rfl ?_); refine goesL_ (some 205) rfl rfl Try.func72 (by as_aux_lemma => kernel_rfl) rfl #[.slice Ao94 x0_78.length co94, .int .i64 a1, .int .i64 x20_2, .int .i64 (wrap64 ((IntKind.u64.wrap (wrap64 (a1 + a3))) / 2)), .func (.func 30) #[] #[]] rfl (by (try simp only [List.map_toArray, List.map_cons, List.map_nil]); first | done | rfl | (simp only [List.length_drop, List.length_take]; rfl)) ?_; (with_reducible refine (ih kj83 (by have := HJ59.out; have := HK2.out; have := HJ76.out; have := HJ78.out; have := HJ83.out; omega) (fun k_ => some k_ = (.slice Ao94 x0_78.length co94 : Value).ownBlock) (.slice Ao94 x0_78.length co94) x0_78 a1 x20_2 (wrap64 ((IntKind.u64.wrap (wrap64 (a1 + a3))) / 2))  t161 w0 _ ?side1 ?side2 A87.out).mono ?_); (case side1 => repeat (first | (with_reducible first | exact HB.out | apply below_alloc | apply pw_below_drewN | apply below_drew1) | exact HB.out)); (case side2 => exact Kd.R_tight rfl HO_0.out); rintro e w95 ⟨rfl, hy0, hb, hkp⟩; refine ⟨_, rfl, ?_⟩; have n0_ := Aside0.mk (Kd.R_reok rfl hy0 (fun k_ e_ => HO_0.out.1 k_ e_)); have n1_ := Aside0.mk (Kept.then_ (S := (fun k_ => P0_ k_)) (by repeat (first | (with_reducible first | exact HK.out | apply Kept.alloc | apply Kept.drewN | apply Kept.drew) | exact HK.out)) hkp (fun k_ hs_ => (fun e_ => (HO_0.out.1 k_ e_.symm)) hs_)); have n2_ := Aside0.mk (hb); clear HO_0; clear HK; clear HB; have HO_0 := n0_; have HK := n1_; have HB := n2_; clear n0_ n1_ n2_; (try clear hb); (try clear hkp); (try clear hy0)))
       first | go_end0 | ((try simp only [Exit.inBlock, Exit.then]); refine bodyPost_ret (results_none rfl _ _ _) rfl ?_)
       exact ⟨by first | rfl | (simp [errW_none, errW_some] <;> rfl) | (simp [*, errW_none, errW_some] <;> rfl), by exact rL HO_0.out, hL HB.out, by repeat (first | (with_reducible first | exact HK.out | apply Kept.alloc | apply Kept.drewN | apply Kept.drew) | exact HK.out)⟩
      rw [if_pos c89] at H
      have c89b0 : decide ((wrap64 ((wrap64 ((wrap64 ((IntKind.u64.wrap (wrap64 (a1 + a3))) / 2)) + a2)) - x20_2)) < a3) = true := decide_eq_true c89
      clear c89
      replace H := Option.bind_eq_some_iff.mp H
      obtain ⟨t162, A900, H⟩ := H
      replace H : (some t162) = some r := H
      have A90 := Aside0.mk A900
      clear A900
      obtain rfl := Option.some.inj H
      simp only [Option.some.injEq, Prod.mk.injEq] at H
      obtain ⟨rfl⟩ := H
      obtain ⟨Ao91, co91, eo91⟩ := Kd.R_slice HO_0.out
      subst eo91
      go_wp2_with (first | ((with_reducible refine gate_callee (f := 72) rfl ?_); refine goesL_ (some 205) rfl rfl Try.func72 (by as_aux_lemma => kernel_rfl) rfl #[.slice Ao91 x0_78.length co91, .int .i64 a1, .int .i64 x20_2, .int .i64 (wrap64 ((IntKind.u64.wrap (wrap64 (a1 + a3))) / 2)), .func (.func 30) #[] #[]] rfl (by (try simp only [List.map_toArray, List.map_cons, List.map_nil]); first | done | rfl | (simp only [List.length_drop, List.length_take]; rfl)) ?_; (with_reducible refine (ih kj83 (by have := HJ59.out; have := HK2.out; have := HJ76.out; have := HJ78.out; have := HJ83.out; omega) (fun k_ => some k_ = (.slice Ao91 x0_78.length co91 : Value).ownBlock) (.slice Ao91 x0_78.length co91) x0_78 a1 x20_2 (wrap64 ((IntKind.u64.wrap (wrap64 (a1 + a3))) / 2))  t161 w0 _ ?side1 ?side2 A87.out).mono ?_); (case side1 => repeat (first | (with_reducible first | exact HB.out | apply below_alloc | apply pw_below_drewN | apply below_drew1) | exact HB.out)); (case side2 => exact Kd.R_tight rfl HO_0.out); rintro e w92 ⟨rfl, hy0, hb, hkp⟩; refine ⟨_, rfl, ?_⟩; have n0_ := Aside0.mk (Kd.R_reok rfl hy0 (fun k_ e_ => HO_0.out.1 k_ e_)); have n1_ := Aside0.mk (Kept.then_ (S := (fun k_ => P0_ k_)) (by repeat (first | (with_reducible first | exact HK.out | apply Kept.alloc | apply Kept.drewN | apply Kept.drew) | exact HK.out)) hkp (fun k_ hs_ => (fun e_ => (HO_0.out.1 k_ e_.symm)) hs_)); have n2_ := Aside0.mk (hb); clear HO_0; clear HK; clear HB; have HO_0 := n0_; have HK := n1_; have HB := n2_; clear n0_ n1_ n2_; (try clear hb); (try clear hkp); (try clear hy0)) | ((with_reducible refine gate_callee (f := 72) rfl ?_); refine goesL_ (some 219) rfl rfl Try.func72 (by as_aux_lemma => kernel_rfl) rfl #[.slice Ao91 x0_78.length co91, .int .i64 (wrap64 ((IntKind.u64.wrap (wrap64 (a1 + a3))) / 2)), .int .i64 (wrap64 ((wrap64 ((wrap64 ((IntKind.u64.wrap (wrap64 (a1 + a3))) / 2)) + a2)) - x20_2)), .int .i64 a3, .func (.func 30) #[] #[]] rfl (by (try simp only [List.map_toArray, List.map_cons, List.map_nil]); first | done | rfl | (simp only [List.length_drop, List.length_take]; rfl)) ?_; (with_reducible refine (ih kj83 (by have := HJ59.out; have := HK2.out; have := HJ76.out; have := HJ78.out; have := HJ83.out; omega) (fun k_ => some k_ = (.slice Ao91 x0_78.length co91 : Value).ownBlock) (.slice Ao91 x0_78.length co91) t161 (wrap64 ((IntKind.u64.wrap (wrap64 (a1 + a3))) / 2)) (wrap64 ((wrap64 ((wrap64 ((IntKind.u64.wrap (wrap64 (a1 + a3))) / 2)) + a2)) - x20_2)) a3  t162 w0 _ ?side1 ?side2 A90.out).mono ?_); (case side1 => repeat (first | (with_reducible first | exact HB.out | apply below_alloc | apply pw_below_drewN | apply below_drew1) | exact HB.out)); (case side2 => exact Kd.R_tight rfl HO_0.out); rintro e w93 ⟨rfl, hy0, hb, hkp⟩; refine ⟨_, rfl, ?_⟩; have n0_ := Aside0.mk (Kd.R_reok rfl hy0 (fun k_ e_ => HO_0.out.1 k_ e_)); have n1_ := Aside0.mk (Kept.then_ (S := (fun k_ => P0_ k_)) (by repeat (first | (with_reducible first | exact HK.out | apply Kept.alloc | apply Kept.drewN | apply Kept.drew) | exact HK.out)) hkp (fun k_ hs_ => (fun e_ => (HO_0.out.1 k_ e_.symm)) hs_)); have n2_ := Aside0.mk (hb); clear HO_0; clear HK; clear HB; have HO_0 := n0_; have HK := n1_; have HB := n2_; clear n0_ n1_ n2_; (try clear hb); (try clear hkp); (try clear hy0)))
      first | go_end0 | ((try simp only [Exit.inBlock, Exit.then]); refine bodyPost_ret (results_none rfl _ _ _) rfl ?_)
      exact ⟨by first | rfl | (simp [errW_none, errW_some] <;> rfl) | (simp [*, errW_none, errW_some] <;> rfl), by exact rL HO_0.out, hL HB.out, by repeat (first | (with_reducible first | exact HK.out | apply Kept.alloc | apply Kept.drewN | apply Kept.drew) | exact HK.out)⟩

end Go.Proofs.Ytdaikljbljcagaa.PAll
