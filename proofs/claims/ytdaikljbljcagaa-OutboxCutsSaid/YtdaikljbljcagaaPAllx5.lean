-- Written by a program of this session for this claim (mp.py, over the kit's print); Lean checks it.
import Derived.Test.YtdaikljbljcagaaPAllx0
import Derived.Test.YtdaikljbljcagaaPAllx4
namespace Go.Proofs.Ytdaikljbljcagaa.PAll
open Go.RowKit Go.Proofs.YtdaikljbljcagaaW.PrintWords Go.Proofs.YtdaikljbljcagaaW.PrintLast Go.Proofs.YtdaikljbljcagaaW.PrintMore Go.Proofs.Ytdaikljbljcagaa.Fv Go.Proofs.Ytdaikljbljcagaa.Hl
attribute [local go_sem] max2_int min2_int max_two min_two max_three min_three max_four min_four str_gtr str_leq str_geq cell_set2   -- for this text's walks alone
set_option linter.unusedVariables false
set_option linter.unusedSimpArgs false


/-! ### slices_insertionSortCmpFunc_api_Intent_at_outbox_Latest_1: function 71 -/
mutual
def slices_insertionSortCmpFunc_api_Intent_at_outbox_Latest_1.l0 : Nat → List (S29) → Int → Int → Int → Option ((List (S29)))
 | 0, _, _, _, _ => none
 | k + 1, x0, x1, x2, x8 => if x8 < x2 then (slices_insertionSortCmpFunc_api_Intent_at_outbox_Latest_1.l1 k x0 x1 x2 x8 x8) else (some x0)
def slices_insertionSortCmpFunc_api_Intent_at_outbox_Latest_1.l1 : Nat → List (S29) → Int → Int → Int → Int → Option ((List (S29)))
 | 0, _, _, _, _, _ => none
 | k + 1, x0, x1, x2, x8, x9 => if x9 > x1 then (if 0 ≤ x9 then (if x9 < (x0.length : Int) then (if 0 ≤ (wrap64 (x9 - 1)) then (if (wrap64 (x9 - 1)) < (x0.length : Int) then ((outbox_Latest_1_v22.f k ((rd_T29 x0 x9).f0) ((rd_T29 x0 x9).f1) ((rd_T29 x0 x9).f2) ((rd_T29 x0 (wrap64 (x9 - 1))).f0) ((rd_T29 x0 (wrap64 (x9 - 1))).f1) ((rd_T29 x0 (wrap64 (x9 - 1))).f2)).bind fun t131 => (if t131 < 0 then (slices_insertionSortCmpFunc_api_Intent_at_outbox_Latest_1.l1 k ((x0.set (x9 : Int).toNat (⟨(rd_T29 x0 (wrap64 (x9 - 1))).f0, (rd_T29 x0 (wrap64 (x9 - 1))).f1, (rd_T29 x0 (wrap64 (x9 - 1))).f2⟩ : S29)).set ((wrap64 (x9 - 1)) : Int).toNat (⟨(rd_T29 x0 x9).f0, (rd_T29 x0 x9).f1, (rd_T29 x0 x9).f2⟩ : S29)) x1 x2 x8 (wrap64 (x9 - 1))) else (slices_insertionSortCmpFunc_api_Intent_at_outbox_Latest_1.l0 k x0 x1 x2 (wrap64 (x8 + 1))))) else (none)) else (none)) else (none)) else (none)) else (slices_insertionSortCmpFunc_api_Intent_at_outbox_Latest_1.l0 k x0 x1 x2 (wrap64 (x8 + 1)))
end
def slices_insertionSortCmpFunc_api_Intent_at_outbox_Latest_1.f (k : Nat) (l0 : List (S29)) (a1 : Int) (a2 : Int)  : Option ((List (S29))) := slices_insertionSortCmpFunc_api_Intent_at_outbox_Latest_1.l0 k l0 a1 a2 (wrap64 (a1 + 1))
theorem slices_insertionSortCmpFunc_api_Intent_at_outbox_Latest_1.mono_l : ∀ k, (∀ y0 y1 y2 y3, LeO (slices_insertionSortCmpFunc_api_Intent_at_outbox_Latest_1.l0 k y0 y1 y2 y3) (slices_insertionSortCmpFunc_api_Intent_at_outbox_Latest_1.l0 (k + 1) y0 y1 y2 y3)) ∧ (∀ y0 y1 y2 y3 y4, LeO (slices_insertionSortCmpFunc_api_Intent_at_outbox_Latest_1.l1 k y0 y1 y2 y3 y4) (slices_insertionSortCmpFunc_api_Intent_at_outbox_Latest_1.l1 (k + 1) y0 y1 y2 y3 y4))
 | 0 => ⟨fun _ _ _ _ r h => by simp [slices_insertionSortCmpFunc_api_Intent_at_outbox_Latest_1.l0] at h, fun _ _ _ _ _ r h => by simp [slices_insertionSortCmpFunc_api_Intent_at_outbox_Latest_1.l1] at h⟩
 | k + 1 => by
  obtain ⟨ih0, ih1⟩ := slices_insertionSortCmpFunc_api_Intent_at_outbox_Latest_1.mono_l k
  refine ⟨?_, ?_⟩
  ·intro y0 y1 y2 y3
   unfold slices_insertionSortCmpFunc_api_Intent_at_outbox_Latest_1.l0
   repeat' first
   | (with_reducible exact ih0 _ _ _ _)
   | (with_reducible exact ih1 _ _ _ _ _)
   | (with_reducible exact outbox_Latest_1_v22.mono _ _ _ _ _ _ _)
   | (with_reducible exact LeO.refl _)
   | (with_reducible exact LeO.none _)
   | (with_reducible refine LeO.ite ?_ ?_)
   | (with_reducible refine LeO.bind ?_ (fun _ => ?_))
   | exact ih0 _ _ _ _
   | exact ih1 _ _ _ _ _
   | exact outbox_Latest_1_v22.mono _ _ _ _ _ _ _
   | exact LeO.none _
   | refine LeO.ite ?_ ?_
   | refine LeO.bind ?_ (fun _ => ?_)
  ·intro y0 y1 y2 y3 y4
   unfold slices_insertionSortCmpFunc_api_Intent_at_outbox_Latest_1.l1
   repeat' first
   | (with_reducible exact ih0 _ _ _ _)
   | (with_reducible exact ih1 _ _ _ _ _)
   | (with_reducible exact outbox_Latest_1_v22.mono _ _ _ _ _ _ _)
   | (with_reducible exact LeO.refl _)
   | (with_reducible exact LeO.none _)
   | (with_reducible refine LeO.ite ?_ ?_)
   | (with_reducible refine LeO.bind ?_ (fun _ => ?_))
   | exact ih0 _ _ _ _
   | exact ih1 _ _ _ _ _
   | exact outbox_Latest_1_v22.mono _ _ _ _ _ _ _
   | exact LeO.none _
   | refine LeO.ite ?_ ?_
   | refine LeO.bind ?_ (fun _ => ?_)
theorem slices_insertionSortCmpFunc_api_Intent_at_outbox_Latest_1.mono : ∀ a0 a1 a2 k, LeO (slices_insertionSortCmpFunc_api_Intent_at_outbox_Latest_1.f k a0 a1 a2) (slices_insertionSortCmpFunc_api_Intent_at_outbox_Latest_1.f (k + 1) a0 a1 a2) := by
 intro a0 a1 a2 k
 obtain ⟨ih0, ih1⟩ := slices_insertionSortCmpFunc_api_Intent_at_outbox_Latest_1.mono_l k
 unfold slices_insertionSortCmpFunc_api_Intent_at_outbox_Latest_1.f
 repeat' first
   | (with_reducible exact ih0 _ _ _ _)
   | (with_reducible exact ih1 _ _ _ _ _)
   | (with_reducible exact outbox_Latest_1_v22.mono _ _ _ _ _ _ _)
   | (with_reducible exact LeO.refl _)
   | (with_reducible exact LeO.none _)
   | (with_reducible refine LeO.ite ?_ ?_)
   | (with_reducible refine LeO.bind ?_ (fun _ => ?_))
   | exact ih0 _ _ _ _
   | exact ih1 _ _ _ _ _
   | exact outbox_Latest_1_v22.mono _ _ _ _ _ _ _
   | exact LeO.none _
   | refine LeO.ite ?_ ?_
   | refine LeO.bind ?_ (fun _ => ?_)
def slices_insertionSortCmpFunc_api_Intent_at_outbox_Latest_1.T4 : Bool × List (List Nat × List Nat) := (true, [([], []), ([], []), ([0, 1], [0, 1]), ([2], [2]), ([3], [3]), ([3], [3]), ([3], [3]), ([5, 6, 3], [3, 5, 6]), ([7, 3], [3, 7]), ([3], [3]), ([3], [3]), ([10, 3], [3, 10]), ([9, 11, 3], [3, 9, 11]), ([12, 3], [3, 12]), ([4, 8, 13, 3, 3], [3, 4, 8, 13]), ([14, 3], [3, 14]), ([3, 15], [3, 15])])
def slices_insertionSortCmpFunc_api_Intent_at_outbox_Latest_1.B4 : List Nat := [0, 0, 3, 7, 15, 15, 15, 111, 239, 15, 15, 1039, 3599, 7695, 16383, 32767, 65535]
theorem slices_insertionSortCmpFunc_api_Intent_at_outbox_Latest_1.tab4 : rtab .any (opsOf Try.f71 4) = slices_insertionSortCmpFunc_api_Intent_at_outbox_Latest_1.T4 := by kernel_rfl
theorem slices_insertionSortCmpFunc_api_Intent_at_outbox_Latest_1.bits4 : waitsOk slices_insertionSortCmpFunc_api_Intent_at_outbox_Latest_1.T4.2 slices_insertionSortCmpFunc_api_Intent_at_outbox_Latest_1.B4 = true := by kernel_rfl
def slices_insertionSortCmpFunc_api_Intent_at_outbox_Latest_1.T6 : Bool × List (List Nat × List Nat) := (true, [([], []), ([], []), ([], []), ([], []), ([3], [3]), ([], []), ([], []), ([6], [6]), ([5, 7], [5, 7]), ([8], [8]), ([], []), ([], []), ([10, 11], [10, 11]), ([12], [12]), ([0, 1, 0, 1, 5, 6, 7, 8, 9, 13], [0, 1]), ([14, 9, 0, 1, 5, 6, 7, 8, 9, 13], [9, 14]), ([2, 4, 0, 1, 2, 3, 4, 5, 6, 7, 8, 9, 10, 11, 12, 13, 14, 15], [2, 4]), ([16, 13, 15, 0, 1, 2, 3, 4, 5, 6, 7, 8, 9, 10, 11, 12, 13, 14, 15], [13, 16])])
def slices_insertionSortCmpFunc_api_Intent_at_outbox_Latest_1.B6 : List Nat := [0, 0, 0, 0, 8, 0, 0, 64, 224, 480, 0, 0, 3072, 7168, 16355, 32739, 65535, 131071]
theorem slices_insertionSortCmpFunc_api_Intent_at_outbox_Latest_1.tab6 : rtab .any (opsOf Try.f71 6) = slices_insertionSortCmpFunc_api_Intent_at_outbox_Latest_1.T6 := by kernel_rfl
theorem slices_insertionSortCmpFunc_api_Intent_at_outbox_Latest_1.bits6 : waitsOk slices_insertionSortCmpFunc_api_Intent_at_outbox_Latest_1.T6.2 slices_insertionSortCmpFunc_api_Intent_at_outbox_Latest_1.B6 = true := by kernel_rfl
set_option maxHeartbeats 8000000 in
set_option maxRecDepth 100000 in
theorem slices_insertionSortCmpFunc_api_Intent_at_outbox_Latest_1.calls (k : Nat) (P0_ : Nat → Prop) (u9000_ : Value) (l0 : List (S29)) (a1 : Int) (a2 : Int)  (r : List (S29)) (w0 w : World) (hB : Below w0.heap.size w0 w) (ho0 : Kd.R k29 29 w w0.heap.size P0_ u9000_ l0) (h : slices_insertionSortCmpFunc_api_Intent_at_outbox_Latest_1.f k l0 a1 a2 = some r) :
  Calls Try.prog 71 #[u9000_, .int .i64 a1, .int .i64 a2, .func (.func 30) #[] #[]] w fun e w' => e = .returned (.tuple #[]) ∧ Kd.R k29 29 w' w0.heap.size (fun k_ => (P0_ k_ ∨ w.heap.size ≤ k_)) u9000_ r ∧ Below w0.heap.size w0 w' ∧ Kept w w' (fun k_ => P0_ k_) := by
 have hu29 := Try.underlying29
 have HO0 := Aside0.mk (show Kd.R k29 29 w w0.heap.size (fun k_ => (P0_ k_ ∨ w.heap.size ≤ k_)) u9000_ l0 from Kd.R_mono ho0 (fun k_ hk => (.inl hk)))
 have HK := Aside0.mk (Kept.refl w (fun k_ => P0_ k_))
 have HW0 := Aside0.mk hB.size
 have HB := Aside0.mk hB
 clear hB
 have H : (slices_insertionSortCmpFunc_api_Intent_at_outbox_Latest_1.l0 k l0 a1 a2 (wrap64 (a1 + 1))) = some r := h
 clear h
 have H' := Aside0.mk H
 clear H
 go_enter Try.func71, Try.ntmps71
 go_wp2
 go_loopg [8] k (fun kq v8 w' => ∃ (x0_1 : List (S29)) (x8_1 : Int), v8 = .int .i64 x8_1 ∧ Aside0 (slices_insertionSortCmpFunc_api_Intent_at_outbox_Latest_1.l0 kq x0_1 a1 a2 x8_1 = some r) ∧ Aside0 (kq ≤ k) ∧ Aside0 (Kd.R k29 29 w' w0.heap.size (fun k_ => (P0_ k_ ∨ w.heap.size ≤ k_)) u9000_ x0_1) ∧ Aside0 (Kept w w' (fun k_ => P0_ k_)) ∧ Aside0 (Below w0.heap.size w0 w'))
 case atStart => exact ⟨(l0), (wrap64 (a1 + 1)), (by first | rfl | (simp; done) | (simp [*]; done) | (simp [ne_nil_bytes]; done) | (simp [eq_nil_bytes]; done)), H', ⟨Nat.le_refl _⟩, ⟨by exact rL HO0.out⟩, ⟨by repeat (first | (with_reducible first | exact HK.out | apply Kept.alloc | apply Kept.drewN | apply Kept.drew) | exact HK.out)⟩, ⟨hL HB.out⟩⟩
 clear H'
 try clear c1
 try clear p2
 obtain ⟨x0_1, x8_1, rfl, HA, HK1, HO_0, HK, HB⟩ := hrel
 rcases gk with _ | k1
 ·exact absurd HA.out (by simp [slices_insertionSortCmpFunc_api_Intent_at_outbox_Latest_1.l0])
 have H := HA.out
 clear HA
 simp only [slices_insertionSortCmpFunc_api_Intent_at_outbox_Latest_1.l0] at H
 by_cases c5 : x8_1 < a2
 rotate_left
 ·rw [if_neg c5] at H
  have c5b0 : decide (x8_1 < a2) = false := decide_eq_false c5
  clear c5
  obtain rfl := Option.some.inj H
  simp only [Option.some.injEq, Prod.mk.injEq] at H
  obtain ⟨rfl⟩ := H
  go_wp2
  first | go_end0 | ((try simp only [Exit.inBlock, Exit.then]); refine bodyPost_ret (results_none rfl _ _ _) rfl ?_)
  exact ⟨by first | rfl | (simp [errW_none, errW_some] <;> rfl) | (simp [*, errW_none, errW_some] <;> rfl), by exact rL HO_0.out, hL HB.out, by repeat (first | (with_reducible first | exact HK.out | apply Kept.alloc | apply Kept.drewN | apply Kept.drew) | exact HK.out)⟩
 rw [if_pos c5] at H
 have c5b0 : decide (x8_1 < a2) = true := decide_eq_true c5
 clear c5
 have H' := Aside0.mk H
 clear H
 go_wp2
 go_loopg [9] k1 (fun kq v9 w' => ∃ (x0_2 : List (S29)) (x9_2 : Int), v9 = .int .i64 x9_2 ∧ Aside0 (slices_insertionSortCmpFunc_api_Intent_at_outbox_Latest_1.l1 kq x0_2 a1 a2 x8_1 x9_2 = some r) ∧ Aside0 (kq ≤ k1) ∧ Aside0 (Kd.R k29 29 w' w0.heap.size (fun k_ => (P0_ k_ ∨ w.heap.size ≤ k_)) u9000_ x0_2) ∧ Aside0 (Kept w w' (fun k_ => P0_ k_)) ∧ Aside0 (Below w0.heap.size w0 w'))
 case atStart => exact ⟨(x0_1), (x8_1), (by first | rfl | (simp; done) | (simp [*]; done) | (simp [ne_nil_bytes]; done) | (simp [eq_nil_bytes]; done)), H', ⟨Nat.le_refl _⟩, ⟨by exact rL HO_0.out⟩, ⟨by repeat (first | (with_reducible first | exact HK.out | apply Kept.alloc | apply Kept.drewN | apply Kept.drew) | exact HK.out)⟩, ⟨hL HB.out⟩⟩
 clear H'
 try clear c1
 try clear p2
 try clear c5
 try clear c5b0
 try clear c5b0z
 try clear p2
 obtain ⟨x0_2, x9_2, rfl, HA, HK2, HO_0, HK, HB⟩ := hrel
 rcases gk with _ | k2
 ·exact absurd HA.out (by simp [slices_insertionSortCmpFunc_api_Intent_at_outbox_Latest_1.l1])
 have H := HA.out
 clear HA
 simp only [slices_insertionSortCmpFunc_api_Intent_at_outbox_Latest_1.l1] at H
 by_cases c6 : x9_2 > a1
 rotate_left
 ·rw [if_neg c6] at H
  have c6b0 : decide (a1 < x9_2) = false := decide_eq_false c6
  clear c6
  have H' := Aside0.mk H
  clear H
  try go_wp2
  have n0_ := Aside0.mk (Kd.R_drew HO_0.out)
  have n1_ := Aside0.mk (Kept.drew HK.out)
  have n2_ := Aside0.mk (below_drew1 HB.out)
  clear HO_0
  clear HK
  clear HB
  have HO_0 := n0_
  have HK := n1_
  have HB := n2_
  clear n0_ n1_ n2_
  refine start_ (n := 17) (S := fun w' => True) (ds := []) #[false, false, false, false, false, false, false, false, false, false, false, false, false, false, false, false, false] (by kernel_rfl) rfl rfl trivial (fun hHeld => ?_); refine with_tabW slices_insertionSortCmpFunc_api_Intent_at_outbox_Latest_1.tab4 slices_insertionSortCmpFunc_api_Intent_at_outbox_Latest_1.bits4 (fun HT_ HW_ => ?_)
  generalize wr.drew = w25 at HO_0 HK HB hHeld ⊢
  refine pure_ (i := 0) (N := some 18) (v := ?_) (a' := ?_) #[true, false, false, false, false, false, false, false, false, false, false, false, false, false, false, false, false] rfl rfl (any_of HT_.out (by kernel_rfl)) (fun _ _ _ h => h) (Or.inl ⟨by rfl, ?_⟩) ?_ ?_
  rotate_left
  ·intro w'
   go_simp
   with_reducible rfl
  rotate_left
  ·simp only [Act.put, sT, sZ, sS, i64_w, i32_w]
   rfl
  refine pure_ (i := 1) (N := some 19) (v := ?_) (a' := ?_) #[true, true, false, false, false, false, false, false, false, false, false, false, false, false, false, false, false] rfl rfl (any_of HT_.out (by kernel_rfl)) (fun _ _ _ h => h) (Or.inl ⟨by rfl, ?_⟩) ?_ ?_
  rotate_left
  ·intro w'
   go_simp
   with_reducible rfl
  rotate_left
  ·simp only [Act.put, sT, sZ, sS, i64_w, i32_w]
   rfl
  refine pure_ (i := 2) (N := some 20) (v := ?_) (a' := ?_) #[true, true, true, false, false, false, false, false, false, false, false, false, false, false, false, false, false] rfl rfl (any_of HT_.out (by kernel_rfl)) (fun _ _ _ h => h) (Or.inl ⟨by rfl, ?_⟩) ?_ ?_
  rotate_left
  ·intro w'
   go_simp
   with_reducible rfl
  rotate_left
  ·simp only [Act.put, sT, sZ, sS, i64_w, i32_w]
   rfl
  refine pure_ (i := 3) (N := some 21) (v := ?_) (a' := ?_) #[true, true, true, true, false, false, false, false, false, false, false, false, false, false, false, false, false] rfl rfl (any_of HT_.out (by kernel_rfl)) (fun _ _ _ h => h) (Or.inl ⟨by rfl, ?_⟩) ?_ ?_
  rotate_left
  ·intro w'
   go_simp
   with_reducible rfl
  rotate_left
  ·simp only [Act.put, sT, sZ, sS, i64_w, i32_w]
   rfl
  refine pure_ (i := 4) (N := some 22) (v := undef) (a' := ?_) #[true, true, true, true, true, false, false, false, false, false, false, false, false, false, false, false, false] rfl rfl (any_of HT_.out (by kernel_rfl)) (fun _ _ _ h => h) (Or.inr ⟨by rfl, rfl⟩) ?_ ?_
  rotate_left
  ·simp only [Act.put, sT, sZ, sS, i64_w, i32_w]
   rfl
  refine pure_ (i := 5) (N := some 23) (v := undef) (a' := ?_) #[true, true, true, true, true, true, false, false, false, false, false, false, false, false, false, false, false] rfl rfl (any_of HT_.out (by kernel_rfl)) (fun _ _ _ h => h) (Or.inr ⟨by rfl, rfl⟩) ?_ ?_
  rotate_left
  ·simp only [Act.put, sT, sZ, sS, i64_w, i32_w]
   rfl
  refine pure_ (i := 6) (N := some 24) (v := undef) (a' := ?_) #[true, true, true, true, true, true, true, false, false, false, false, false, false, false, false, false, false] rfl rfl (any_of HT_.out (by kernel_rfl)) (fun _ _ _ h => h) (Or.inr ⟨by rfl, rfl⟩) ?_ ?_
  rotate_left
  ·simp only [Act.put, sT, sZ, sS, i64_w, i32_w]
   rfl
  refine pure_ (i := 7) (N := some 25) (v := undef) (a' := ?_) #[true, true, true, true, true, true, true, true, false, false, false, false, false, false, false, false, false] rfl rfl (any_of HT_.out (by kernel_rfl)) (fun _ _ _ h => h) (Or.inr ⟨by rfl, rfl⟩) ?_ ?_
  rotate_left
  ·simp only [Act.put, sT, sZ, sS, i64_w, i32_w]
   rfl
  refine pure_ (i := 8) (N := some 26) (v := undef) (a' := ?_) #[true, true, true, true, true, true, true, true, true, false, false, false, false, false, false, false, false] rfl rfl (any_of HT_.out (by kernel_rfl)) (fun _ _ _ h => h) (Or.inr ⟨by rfl, rfl⟩) ?_ ?_
  rotate_left
  ·simp only [Act.put, sT, sZ, sS, i64_w, i32_w]
   rfl
  refine pure_ (i := 9) (N := some 27) (v := undef) (a' := ?_) #[true, true, true, true, true, true, true, true, true, true, false, false, false, false, false, false, false] rfl rfl (any_of HT_.out (by kernel_rfl)) (fun _ _ _ h => h) (Or.inr ⟨by rfl, rfl⟩) ?_ ?_
  rotate_left
  ·simp only [Act.put, sT, sZ, sS, i64_w, i32_w]
   rfl
  refine pure_ (i := 10) (N := some 28) (v := undef) (a' := ?_) #[true, true, true, true, true, true, true, true, true, true, true, false, false, false, false, false, false] rfl rfl (any_of HT_.out (by kernel_rfl)) (fun _ _ _ h => h) (Or.inr ⟨by rfl, rfl⟩) ?_ ?_
  rotate_left
  ·simp only [Act.put, sT, sZ, sS, i64_w, i32_w]
   rfl
  refine pure_ (i := 11) (N := some 29) (v := undef) (a' := ?_) #[true, true, true, true, true, true, true, true, true, true, true, true, false, false, false, false, false] rfl rfl (any_of HT_.out (by kernel_rfl)) (fun _ _ _ h => h) (Or.inr ⟨by rfl, rfl⟩) ?_ ?_
  rotate_left
  ·simp only [Act.put, sT, sZ, sS, i64_w, i32_w]
   rfl
  refine pure_ (i := 12) (N := some 30) (v := undef) (a' := ?_) #[true, true, true, true, true, true, true, true, true, true, true, true, true, false, false, false, false] rfl rfl (any_of HT_.out (by kernel_rfl)) (fun _ _ _ h => h) (Or.inr ⟨by rfl, rfl⟩) ?_ ?_
  rotate_left
  ·simp only [Act.put, sT, sZ, sS, i64_w, i32_w]
   rfl
  refine pure_ (i := 13) (N := some 31) (v := undef) (a' := ?_) #[true, true, true, true, true, true, true, true, true, true, true, true, true, true, false, false, false] rfl rfl (any_of HT_.out (by kernel_rfl)) (fun _ _ _ h => h) (Or.inr ⟨by rfl, rfl⟩) ?_ ?_
  rotate_left
  ·simp only [Act.put, sT, sZ, sS, i64_w, i32_w]
   rfl
  refine pure_ (i := 14) (N := some 32) (v := undef) (a' := ?_) #[true, true, true, true, true, true, true, true, true, true, true, true, true, true, true, false, false] rfl rfl (any_of HT_.out (by kernel_rfl)) (fun _ _ _ h => h) (Or.inr ⟨by rfl, rfl⟩) ?_ ?_
  rotate_left
  ·simp only [Act.put, sT, sZ, sS, i64_w, i32_w]
   rfl
  refine pure_ (i := 15) (N := some 33) (v := undef) (a' := ?_) #[true, true, true, true, true, true, true, true, true, true, true, true, true, true, true, true, false] rfl rfl (any_of HT_.out (by kernel_rfl)) (fun _ _ _ h => h) (Or.inr ⟨by rfl, rfl⟩) ?_ ?_
  rotate_left
  ·simp only [Act.put, sT, sZ, sS, i64_w, i32_w]
   rfl
  refine pure_ (i := 16) (N := some 34) (v := ?_) (a' := ?_) #[true, true, true, true, true, true, true, true, true, true, true, true, true, true, true, true, true] rfl rfl (any_of HT_.out (by kernel_rfl)) (fun _ _ _ h => h) (Or.inl ⟨by rfl, ?_⟩) ?_ ?_
  rotate_left
  ·intro w'
   go_simp
   with_reducible rfl
  rotate_left
  ·simp only [Act.put, sT, sZ, sS, i64_w, i32_w]
   rfl
  refine done_ (done_of HT_.out (by kernel_rfl)) ?_
  try go_wp2
  go_roundg k2
  case measure => have := HK1.out; have := HK2.out; omega
  case rel => exact ⟨(x0_2), (wrap64 (x8_1 + 1)), (by first | rfl | (simp; done) | (simp [*]; done) | (simp [ne_nil_bytes]; done) | (simp [eq_nil_bytes]; done)), H', ⟨by have := HK1.out; have := HK2.out; omega⟩, ⟨by exact rL HO_0.out⟩, ⟨by repeat (first | (with_reducible first | exact HK.out | apply Kept.alloc | apply Kept.drewN | apply Kept.drew) | exact HK.out)⟩, ⟨hL HB.out⟩⟩
 rw [if_pos c6] at H
 have c6b0 : decide (a1 < x9_2) = true := decide_eq_true c6
 clear c6
 by_cases c7 : 0 ≤ x9_2
 rotate_left
 ·rw [if_neg c7] at H
  exact absurd H (by simp)
 rw [if_pos c7] at H
 have c7b0 : decide (0 ≤ x9_2) = true := decide_eq_true c7
 clear c7
 by_cases c8 : x9_2 < (x0_2.length : Int)
 rotate_left
 ·rw [if_neg c8] at H
  exact absurd H (by simp)
 rw [if_pos c8] at H
 have c8b0 : decide (x9_2 < (x0_2.length : Int)) = true := decide_eq_true c8
 clear c8
 obtain ⟨ji9, hji9⟩ : ∃ j_ : Int, (wrap64 (x9_2 - 1)) = j_ := ⟨_, rfl⟩
 replace H : (if 0 ≤ (ji9) then (if (ji9) < (x0_2.length : Int) then ((outbox_Latest_1_v22.f k2 ((rd_T29 x0_2 x9_2).f0) ((rd_T29 x0_2 x9_2).f1) ((rd_T29 x0_2 x9_2).f2) ((rd_T29 x0_2 (ji9)).f0) ((rd_T29 x0_2 (ji9)).f1) ((rd_T29 x0_2 (ji9)).f2)).bind fun t131 => (if t131 < 0 then (slices_insertionSortCmpFunc_api_Intent_at_outbox_Latest_1.l1 k2 ((x0_2.set (x9_2 : Int).toNat (⟨(rd_T29 x0_2 (ji9)).f0, (rd_T29 x0_2 (ji9)).f1, (rd_T29 x0_2 (ji9)).f2⟩ : S29)).set ((ji9) : Int).toNat (⟨(rd_T29 x0_2 x9_2).f0, (rd_T29 x0_2 x9_2).f1, (rd_T29 x0_2 x9_2).f2⟩ : S29)) a1 a2 x8_1 ji9) else (slices_insertionSortCmpFunc_api_Intent_at_outbox_Latest_1.l0 k2 x0_2 a1 a2 (wrap64 (x8_1 + 1))))) else (none)) else (none)) = some r := by first | (rw [hji9] at H; exact H) | (simp only [hji9] at H ⊢; exact H)
 have hji9w : (IntKind.i64.wrap (x9_2 - 1)) = ji9 := (i64_w _).trans hji9
 by_cases c10 : 0 ≤ (ji9)
 rotate_left
 ·rw [if_neg c10] at H
  exact absurd H (by simp)
 rw [if_pos c10] at H
 have c10b0 : decide (0 ≤ (ji9)) = true := decide_eq_true c10
 clear c10
 by_cases c11 : (ji9) < (x0_2.length : Int)
 rotate_left
 ·rw [if_neg c11] at H
  exact absurd H (by simp)
 rw [if_pos c11] at H
 have c11b0 : decide ((ji9) < (x0_2.length : Int)) = true := decide_eq_true c11
 clear c11
 replace H := Option.bind_eq_some_iff.mp H
 obtain ⟨t131, A120, H⟩ := H
 replace H : (if t131 < 0 then (slices_insertionSortCmpFunc_api_Intent_at_outbox_Latest_1.l1 k2 ((x0_2.set (x9_2 : Int).toNat (⟨(rd_T29 x0_2 (ji9)).f0, (rd_T29 x0_2 (ji9)).f1, (rd_T29 x0_2 (ji9)).f2⟩ : S29)).set ((ji9) : Int).toNat (⟨(rd_T29 x0_2 x9_2).f0, (rd_T29 x0_2 x9_2).f1, (rd_T29 x0_2 x9_2).f2⟩ : S29)) a1 a2 x8_1 ji9) else (slices_insertionSortCmpFunc_api_Intent_at_outbox_Latest_1.l0 k2 x0_2 a1 a2 (wrap64 (x8_1 + 1)))) = some r := H
 have A12 := Aside0.mk A120
 clear A120
 by_cases c13 : t131 < 0
 rotate_left
 ·rw [if_neg c13] at H
  have c13b0 : decide (t131 < 0) = false := decide_eq_false c13
  clear c13
  have H' := Aside0.mk H
  clear H
  try go_wp2
  have n0_ := Aside0.mk (Kd.R_drew HO_0.out)
  have n1_ := Aside0.mk (Kept.drew HK.out)
  have n2_ := Aside0.mk (below_drew1 HB.out)
  clear HO_0
  clear HK
  clear HB
  have HO_0 := n0_
  have HK := n1_
  have HB := n2_
  clear n0_ n1_ n2_
  obtain ⟨Ao23, co23, eo23⟩ := Kd.R_slice HO_0.out
  (first | subst eo23 | (injection eo23 with f1_ f2_ f3_; have f4_ := f1_.symm; have f5_ := f3_.symm; clear f1_ f2_ f3_; subst f4_; subst f5_))
  have p129 : 0 ≤ (x9_2 : Int) := of_decide_eq_true (by first | (with_reducible assumption) | assumption)
  have q129 : x9_2 < (x0_2.length : Int) := of_decide_eq_true (by first | (with_reducible assumption) | assumption)
  obtain ⟨ad129, e129, hx129_0, hx129_1, hx129_2⟩ := at_T29 (Kd.R_reads' HO_0.out).2.2 x9_2 p129 q129
  cases e129
  replace p129 := eq_true p129
  replace q129 := eq_true q129
  have p130 : 0 ≤ ((ji9) : Int) := of_decide_eq_true (by first | (with_reducible assumption) | assumption)
  have q130 : (ji9) < (x0_2.length : Int) := of_decide_eq_true (by first | (with_reducible assumption) | assumption)
  obtain ⟨ad130, e130, hx130_0, hx130_1, hx130_2⟩ := at_T29 (Kd.R_reads' HO_0.out).2.2 (ji9) p130 q130
  obtain rfl : ad129 = ad130 := (by injection e130)
  replace p130 := eq_true p130
  replace q130 := eq_true q130
  refine start_ (n := 17) (S := fun w' => w'.cell? (ad129.add ((x9_2).toNat * 3)) = some (.string ((rd_T29 x0_2 x9_2).f0)) ∧ w'.cell? ⟨(ad129.add ((x9_2).toNat * 3)).block, (ad129.add ((x9_2).toNat * 3)).off + 1, none⟩ = some (.int .i64 ((rd_T29 x0_2 x9_2).f1)) ∧ w'.cell? ⟨(ad129.add ((x9_2).toNat * 3)).block, (ad129.add ((x9_2).toNat * 3)).off + 2, none⟩ = some (.bool ((rd_T29 x0_2 x9_2).f2)) ∧ w'.cell? (ad129.add (((ji9)).toNat * 3)) = some (.string ((rd_T29 x0_2 (ji9)).f0)) ∧ w'.cell? ⟨(ad129.add (((ji9)).toNat * 3)).block, (ad129.add (((ji9)).toNat * 3)).off + 1, none⟩ = some (.int .i64 ((rd_T29 x0_2 (ji9)).f1)) ∧ w'.cell? ⟨(ad129.add (((ji9)).toNat * 3)).block, (ad129.add (((ji9)).toNat * 3)).off + 2, none⟩ = some (.bool ((rd_T29 x0_2 (ji9)).f2))) (ds := []) #[false, false, false, false, false, false, false, false, false, false, false, false, false, false, false, false, false] (by kernel_rfl) rfl rfl ⟨hx129_0, hx129_1, hx129_2, hx130_0, hx130_1, hx130_2⟩ (fun hHeld => ?_); refine with_tabW slices_insertionSortCmpFunc_api_Intent_at_outbox_Latest_1.tab4 slices_insertionSortCmpFunc_api_Intent_at_outbox_Latest_1.bits4 (fun HT_ HW_ => ?_)
  generalize wr.drew = w22 at HO_0 HK HB hx129_0 hx129_1 hx129_2 hx130_0 hx130_1 hx130_2 hHeld ⊢
  refine pure_ (i := 0) (N := some 18) (v := ?_) (a' := ?_) #[true, false, false, false, false, false, false, false, false, false, false, false, false, false, false, false, false] rfl rfl (any_of HT_.out (by kernel_rfl)) (fun _ _ _ h => h) (Or.inl ⟨by rfl, ?_⟩) ?_ ?_
  rotate_left
  ·intro w'
   go_simp
   with_reducible rfl
  rotate_left
  ·simp only [Act.put, sT, sZ, sS, i64_w, i32_w]
   rfl
  refine pure_ (i := 1) (N := some 19) (v := ?_) (a' := ?_) #[true, true, false, false, false, false, false, false, false, false, false, false, false, false, false, false, false] rfl rfl (any_of HT_.out (by kernel_rfl)) (fun _ _ _ h => h) (Or.inl ⟨by rfl, ?_⟩) ?_ ?_
  rotate_left
  ·intro w'
   go_simp
   with_reducible rfl
  rotate_left
  ·simp only [Act.put, sT, sZ, sS, i64_w, i32_w]
   rfl
  refine pure_ (i := 2) (N := some 20) (v := ?_) (a' := ?_) #[true, true, true, false, false, false, false, false, false, false, false, false, false, false, false, false, false] rfl rfl (any_of HT_.out (by kernel_rfl)) (fun _ _ _ h => h) (Or.inl ⟨by rfl, ?_⟩) ?_ ?_
  rotate_left
  ·intro w'
   go_simp
   with_reducible rfl
  rotate_left
  ·simp only [Act.put, sT, sZ, sS, i64_w, i32_w]
   rfl
  refine pure_ (i := 3) (N := some 21) (v := ?_) (a' := ?_) #[true, true, true, true, false, false, false, false, false, false, false, false, false, false, false, false, false] rfl rfl (any_of HT_.out (by kernel_rfl)) (fun _ _ _ h => h) (Or.inl ⟨by rfl, ?_⟩) ?_ ?_
  rotate_left
  ·intro w'
   go_simp
   with_reducible rfl
  rotate_left
  ·simp only [Act.put, sT, sZ, sS, i64_w, i32_w]
   rfl
  refine pure_ (i := 4) (N := some 22) (v := ?_) (a' := ?_) #[true, true, true, true, true, false, false, false, false, false, false, false, false, false, false, false, false] rfl rfl (any_of HT_.out (by kernel_rfl)) (fun _ _ _ h => h) (Or.inl ⟨by rfl, ?_⟩) ?_ ?_
  rotate_left
  ·intro w'
   go_simp
   with_reducible rfl
  rotate_left
  ·simp only [Act.put, sT, sZ, sS, i64_w, i32_w]
   rfl
  refine pure_ (i := 5) (N := some 23) (v := ?_) (a' := ?_) #[true, true, true, true, true, true, false, false, false, false, false, false, false, false, false, false, false] rfl rfl (any_of HT_.out (by kernel_rfl)) (fun _ _ _ h => h) (Or.inl ⟨by rfl, ?_⟩) ?_ ?_
  rotate_left
  ·intro w'
   go_simp
   with_reducible rfl
  rotate_left
  ·simp only [Act.put, sT, sZ, sS, i64_w, i32_w]
   rfl
  refine pure_ (i := 6) (N := some 24) (v := ?_) (a' := ?_) #[true, true, true, true, true, true, true, false, false, false, false, false, false, false, false, false, false] rfl rfl (any_of HT_.out (by kernel_rfl)) (fun _ _ _ h => h) (Or.inl ⟨by rfl, ?_⟩) ?_ ?_
  rotate_left
  ·intro w'
   go_simp
   with_reducible rfl
  rotate_left
  ·simp only [Act.put, sT, sZ, sS, i64_w, i32_w]
   rfl
  refine pure_ (i := 7) (N := some 25) (v := ?_) (a' := ?_) #[true, true, true, true, true, true, true, true, false, false, false, false, false, false, false, false, false] rfl rfl (any_of HT_.out (by kernel_rfl)) (fun _ _ _ h => h) (Or.inl ⟨by rfl, ?_⟩) ?_ ?_
  rotate_left
  ·intro w'
   go_simp
   with_reducible rfl
  rotate_left
  ·simp only [Act.put, sT, sZ, sS, i64_w, i32_w]
   rfl
  refine pure_ (i := 9) (N := some 27) (v := ?_) (a' := ?_) #[true, true, true, true, true, true, true, true, false, true, false, false, false, false, false, false, false] rfl rfl (any_of HT_.out (by kernel_rfl)) (fun _ _ _ h => h) (Or.inl ⟨by rfl, ?_⟩) ?_ ?_
  rotate_left
  ·intro w'
   go_simp
   with_reducible rfl
  rotate_left
  ·simp only [Act.put, sT, sZ, sS, i64_w, i32_w]
   rfl
  refine pure_ (i := 10) (N := some 28) (v := ?_) (a' := ?_) #[true, true, true, true, true, true, true, true, false, true, true, false, false, false, false, false, false] rfl rfl (any_of HT_.out (by kernel_rfl)) (fun _ _ _ h => h) (Or.inl ⟨by rfl, ?_⟩) ?_ ?_
  rotate_left
  ·intro w'
   go_simp
   with_reducible rfl
  rotate_left
  ·simp only [Act.put, sT, sZ, sS, i64_w, i32_w]
   rfl
  refine pure_ (i := 11) (N := some 29) (v := ?_) (a' := ?_) #[true, true, true, true, true, true, true, true, false, true, true, true, false, false, false, false, false] rfl rfl (any_of HT_.out (by kernel_rfl)) (fun _ _ _ h => h) (Or.inl ⟨by rfl, ?_⟩) ?_ ?_
  rotate_left
  ·intro w'
   go_simp
   with_reducible rfl
  rotate_left
  ·simp only [Act.put, sT, sZ, sS, i64_w, i32_w]
   rfl
  refine pure_ (i := 12) (N := some 30) (v := ?_) (a' := ?_) #[true, true, true, true, true, true, true, true, false, true, true, true, true, false, false, false, false] rfl rfl (any_of HT_.out (by kernel_rfl)) (fun _ _ _ h => h) (Or.inl ⟨by rfl, ?_⟩) ?_ ?_
  rotate_left
  ·intro w'
   go_simp
   with_reducible rfl
  rotate_left
  ·simp only [Act.put, sT, sZ, sS, i64_w, i32_w]
   rfl
  refine take_ (i := 8) (N := some 26) (v := ?_) (a' := ?_) #[true, true, true, true, true, true, true, true, true, true, true, true, true, false, false, false, false] rfl rfl (take_ofW HT_.out HW_.out (by kernel_rfl)) (fun _ _ _ h => h) (Or.inl ⟨by rfl, ?_⟩) hHeld ?_ ?_
  rotate_left
  ·rintro w' ⟨s0, s1, s2, s3, s4, s5⟩
   go_simp
   with_reducible rfl
  rotate_left
  ·simp only [Act.put, sT, sZ, sS, i64_w, i32_w]
   rfl
  refine take_ (i := 13) (N := some 31) (v := ?_) (a' := ?_) #[true, true, true, true, true, true, true, true, true, true, true, true, true, true, false, false, false] rfl rfl (take_ofW HT_.out HW_.out (by kernel_rfl)) (fun _ _ _ h => h) (Or.inl ⟨by rfl, ?_⟩) hHeld ?_ ?_
  rotate_left
  ·rintro w' ⟨s0, s1, s2, s3, s4, s5⟩
   go_simp
   with_reducible rfl
  rotate_left
  ·simp only [Act.put, sT, sZ, sS, i64_w, i32_w]
   rfl
  refine one_ (i := 14) (N := some 32) #[true, true, true, true, true, true, true, true, true, true, true, true, true, true, true, false, false] rfl rfl (one_of HT_.out (by kernel_rfl)) (by decide) (fun K hK => ?_)
  refine goesV Try.func30 (by kernel_rfl) rfl #[.agg #[.string ((rd_T29 x0_2 x9_2).f0), .int .i64 ((rd_T29 x0_2 x9_2).f1), .bool ((rd_T29 x0_2 x9_2).f2)], .agg #[.string ((rd_T29 x0_2 (ji9)).f0), .int .i64 ((rd_T29 x0_2 (ji9)).f1), .bool ((rd_T29 x0_2 (ji9)).f2)]] (by rfl) rfl rfl (by (try simp only [List.map_toArray, List.map_cons, List.map_nil]); first | done | (simp only [hji9]; rfl) | rfl | (simp only [List.length_drop, List.length_take]; rfl)) ?_
  with_reducible refine (outbox_Latest_1_v22.calls k2 ((rd_T29 x0_2 x9_2).f0) ((rd_T29 x0_2 x9_2).f1) ((rd_T29 x0_2 x9_2).f2) ((rd_T29 x0_2 (ji9)).f0) ((rd_T29 x0_2 (ji9)).f1) ((rd_T29 x0_2 (ji9)).f2) t131 _ A12.out).mono ?_
  rintro e w24 ⟨rfl, hb⟩
  have HS0_ := (hb.cell (World.block_lt_of_cell? _ _ (hHeld.1))).trans (hHeld.1)
  have HS1_ := (hb.cell (World.block_lt_of_cell? _ _ (hHeld.2.1))).trans (hHeld.2.1)
  have HS2_ := (hb.cell (World.block_lt_of_cell? _ _ (hHeld.2.2.1))).trans (hHeld.2.2.1)
  have HS3_ := (hb.cell (World.block_lt_of_cell? _ _ (hHeld.2.2.2.1))).trans (hHeld.2.2.2.1)
  have HS4_ := (hb.cell (World.block_lt_of_cell? _ _ (hHeld.2.2.2.2.1))).trans (hHeld.2.2.2.2.1)
  have HS5_ := (hb.cell (World.block_lt_of_cell? _ _ (hHeld.2.2.2.2.2))).trans (hHeld.2.2.2.2.2)
  refine ⟨_, rfl, ?_⟩
  have n0_ := Aside0.mk (Kd.R_below (rL HO_0.out) hb)
  have n1_ := Aside0.mk (Kept.below (S := (fun k_ => P0_ k_)) (by repeat (first | (with_reducible first | exact HK.out | apply Kept.alloc | apply Kept.drewN | apply Kept.drew) | exact HK.out)) hb)
  have n2_ := Aside0.mk (below_step (hL HB.out) hb)
  clear HO_0
  clear HK
  clear HB
  have HO_0 := n0_
  have HK := n1_
  have HB := n2_
  clear n0_ n1_ n2_
  (try clear hb)
  (try clear hb2)
  (try clear hk)
  (try clear hi)
  refine hK.out _ _ ⟨HS0_, HS1_, HS2_, HS3_, HS4_, HS5_⟩ (fun hHeld => ?_)
  clear hK K
  refine norm_ (a' := ?_) ?_ ?_
  rotate_left
  ·show Act.put _ (some 32) _ = _
   simp only [Act.put, sT, sZ, sS, i64_w, i32_w]
   rfl
  refine pure_ (i := 15) (N := some 33) (v := ?_) (a' := ?_) #[true, true, true, true, true, true, true, true, true, true, true, true, true, true, true, true, false] rfl rfl (any_of HT_.out (by kernel_rfl)) (fun _ _ _ h => h) (Or.inl ⟨by rfl, ?_⟩) ?_ ?_
  rotate_left
  ·intro w'
   go_simp
   with_reducible rfl
  rotate_left
  ·simp only [Act.put, sT, sZ, sS, i64_w, i32_w]
   rfl
  refine pure_ (i := 16) (N := some 34) (v := ?_) (a' := ?_) #[true, true, true, true, true, true, true, true, true, true, true, true, true, true, true, true, true] rfl rfl (any_of HT_.out (by kernel_rfl)) (fun _ _ _ h => h) (Or.inl ⟨by rfl, ?_⟩) ?_ ?_
  rotate_left
  ·intro w'
   go_simp
   with_reducible rfl
  rotate_left
  ·simp only [Act.put, sT, sZ, sS, i64_w, i32_w]
   rfl
  refine done_ (done_of HT_.out (by kernel_rfl)) ?_
  try go_wp2
  go_roundg k2
  case measure => have := HK1.out; have := HK2.out; omega
  case rel => exact ⟨(x0_2), (wrap64 (x8_1 + 1)), (by first | rfl | (simp; done) | (simp [*]; done) | (simp [ne_nil_bytes]; done) | (simp [eq_nil_bytes]; done)), H', ⟨by have := HK1.out; have := HK2.out; omega⟩, ⟨by exact rL HO_0.out⟩, ⟨by repeat (first | (with_reducible first | exact HK.out | apply Kept.alloc | apply Kept.drewN | apply Kept.drew) | exact HK.out)⟩, ⟨hL HB.out⟩⟩
 rw [if_pos c13] at H
 have c13b0 : decide (t131 < 0) = true := decide_eq_true c13
 clear c13
 obtain ⟨y134, hy134⟩ : ∃ y_ : List (S29), y_ = (x0_2.set (x9_2 : Int).toNat (⟨(rd_T29 x0_2 (ji9)).f0, (rd_T29 x0_2 (ji9)).f1, (rd_T29 x0_2 (ji9)).f2⟩ : S29)) := ⟨_, rfl⟩
 replace H : (slices_insertionSortCmpFunc_api_Intent_at_outbox_Latest_1.l1 k2 (y134.set ((ji9) : Int).toNat (⟨(rd_T29 x0_2 x9_2).f0, (rd_T29 x0_2 x9_2).f1, (rd_T29 x0_2 x9_2).f2⟩ : S29)) a1 a2 x8_1 ji9) = some r := by first | (rw [hy134]; with_reducible exact H) | (have H2_ := (Option.bind_some _ _).symm.trans H; rw [hy134]; with_reducible exact H2_) | (have H2_ := (Option.bind_some _ _).symm.trans H; with_reducible exact H2_) | with_reducible exact H | (rw [hy134]; exact H) | exact H
 have Ny134 := Aside0.mk hy134
 clear hy134
 obtain ⟨y135, hy135⟩ : ∃ y_ : List (S29), y_ = (y134.set ((ji9) : Int).toNat (⟨(rd_T29 x0_2 x9_2).f0, (rd_T29 x0_2 x9_2).f1, (rd_T29 x0_2 x9_2).f2⟩ : S29)) := ⟨_, rfl⟩
 replace H : (slices_insertionSortCmpFunc_api_Intent_at_outbox_Latest_1.l1 k2 y135 a1 a2 x8_1 ji9) = some r := by first | (rw [hy135]; with_reducible exact H) | (have H2_ := (Option.bind_some _ _).symm.trans H; rw [hy135]; with_reducible exact H2_) | (have H2_ := (Option.bind_some _ _).symm.trans H; with_reducible exact H2_) | with_reducible exact H | (rw [hy135]; exact H) | exact H
 have Ny135 := Aside0.mk hy135
 clear hy135
 have H' := Aside0.mk H
 clear H
 try go_wp2
 have n0_ := Aside0.mk (Kd.R_drew HO_0.out)
 have n1_ := Aside0.mk (Kept.drew HK.out)
 have n2_ := Aside0.mk (below_drew1 HB.out)
 clear HO_0
 clear HK
 clear HB
 have HO_0 := n0_
 have HK := n1_
 have HB := n2_
 clear n0_ n1_ n2_
 obtain ⟨Ao17, co17, eo17⟩ := Kd.R_slice HO_0.out
 (first | subst eo17 | (injection eo17 with f1_ f2_ f3_; have f4_ := f1_.symm; have f5_ := f3_.symm; clear f1_ f2_ f3_; subst f4_; subst f5_))
 have p129 : 0 ≤ (x9_2 : Int) := of_decide_eq_true (by first | (with_reducible assumption) | assumption)
 have q129 : x9_2 < (x0_2.length : Int) := of_decide_eq_true (by first | (with_reducible assumption) | assumption)
 obtain ⟨ad129, e129, hx129_0, hx129_1, hx129_2⟩ := at_T29 (Kd.R_reads' HO_0.out).2.2 x9_2 p129 q129
 cases e129
 replace p129 := eq_true p129
 replace q129 := eq_true q129
 have p130 : 0 ≤ ((ji9) : Int) := of_decide_eq_true (by first | (with_reducible assumption) | assumption)
 have q130 : (ji9) < (x0_2.length : Int) := of_decide_eq_true (by first | (with_reducible assumption) | assumption)
 obtain ⟨ad130, e130, hx130_0, hx130_1, hx130_2⟩ := at_T29 (Kd.R_reads' HO_0.out).2.2 (ji9) p130 q130
 obtain rfl : ad129 = ad130 := (by injection e130)
 replace p130 := eq_true p130
 replace q130 := eq_true q130
 refine start_ (n := 17) (S := fun w' => w'.cell? (ad129.add ((x9_2).toNat * 3)) = some (.string ((rd_T29 x0_2 x9_2).f0)) ∧ w'.cell? ⟨(ad129.add ((x9_2).toNat * 3)).block, (ad129.add ((x9_2).toNat * 3)).off + 1, none⟩ = some (.int .i64 ((rd_T29 x0_2 x9_2).f1)) ∧ w'.cell? ⟨(ad129.add ((x9_2).toNat * 3)).block, (ad129.add ((x9_2).toNat * 3)).off + 2, none⟩ = some (.bool ((rd_T29 x0_2 x9_2).f2)) ∧ w'.cell? (ad129.add (((ji9)).toNat * 3)) = some (.string ((rd_T29 x0_2 (ji9)).f0)) ∧ w'.cell? ⟨(ad129.add (((ji9)).toNat * 3)).block, (ad129.add (((ji9)).toNat * 3)).off + 1, none⟩ = some (.int .i64 ((rd_T29 x0_2 (ji9)).f1)) ∧ w'.cell? ⟨(ad129.add (((ji9)).toNat * 3)).block, (ad129.add (((ji9)).toNat * 3)).off + 2, none⟩ = some (.bool ((rd_T29 x0_2 (ji9)).f2))) (ds := []) #[false, false, false, false, false, false, false, false, false, false, false, false, false, false, false, false, false] (by kernel_rfl) rfl rfl ⟨hx129_0, hx129_1, hx129_2, hx130_0, hx130_1, hx130_2⟩ (fun hHeld => ?_); refine with_tabW slices_insertionSortCmpFunc_api_Intent_at_outbox_Latest_1.tab4 slices_insertionSortCmpFunc_api_Intent_at_outbox_Latest_1.bits4 (fun HT_ HW_ => ?_)
 generalize wr.drew = w16 at HO_0 HK HB hx129_0 hx129_1 hx129_2 hx130_0 hx130_1 hx130_2 hHeld ⊢
 refine pure_ (i := 0) (N := some 18) (v := ?_) (a' := ?_) #[true, false, false, false, false, false, false, false, false, false, false, false, false, false, false, false, false] rfl rfl (any_of HT_.out (by kernel_rfl)) (fun _ _ _ h => h) (Or.inl ⟨by rfl, ?_⟩) ?_ ?_
 rotate_left
 ·intro w'
  go_simp
  with_reducible rfl
 rotate_left
 ·simp only [Act.put, sT, sZ, sS, i64_w, i32_w]
  rfl
 refine pure_ (i := 1) (N := some 19) (v := ?_) (a' := ?_) #[true, true, false, false, false, false, false, false, false, false, false, false, false, false, false, false, false] rfl rfl (any_of HT_.out (by kernel_rfl)) (fun _ _ _ h => h) (Or.inl ⟨by rfl, ?_⟩) ?_ ?_
 rotate_left
 ·intro w'
  go_simp
  with_reducible rfl
 rotate_left
 ·simp only [Act.put, sT, sZ, sS, i64_w, i32_w]
  rfl
 refine pure_ (i := 2) (N := some 20) (v := ?_) (a' := ?_) #[true, true, true, false, false, false, false, false, false, false, false, false, false, false, false, false, false] rfl rfl (any_of HT_.out (by kernel_rfl)) (fun _ _ _ h => h) (Or.inl ⟨by rfl, ?_⟩) ?_ ?_
 rotate_left
 ·intro w'
  go_simp
  with_reducible rfl
 rotate_left
 ·simp only [Act.put, sT, sZ, sS, i64_w, i32_w]
  rfl
 refine pure_ (i := 3) (N := some 21) (v := ?_) (a' := ?_) #[true, true, true, true, false, false, false, false, false, false, false, false, false, false, false, false, false] rfl rfl (any_of HT_.out (by kernel_rfl)) (fun _ _ _ h => h) (Or.inl ⟨by rfl, ?_⟩) ?_ ?_
 rotate_left
 ·intro w'
  go_simp
  with_reducible rfl
 rotate_left
 ·simp only [Act.put, sT, sZ, sS, i64_w, i32_w]
  rfl
 refine pure_ (i := 4) (N := some 22) (v := ?_) (a' := ?_) #[true, true, true, true, true, false, false, false, false, false, false, false, false, false, false, false, false] rfl rfl (any_of HT_.out (by kernel_rfl)) (fun _ _ _ h => h) (Or.inl ⟨by rfl, ?_⟩) ?_ ?_
 rotate_left
 ·intro w'
  go_simp
  with_reducible rfl
 rotate_left
 ·simp only [Act.put, sT, sZ, sS, i64_w, i32_w]
  rfl
 refine pure_ (i := 5) (N := some 23) (v := ?_) (a' := ?_) #[true, true, true, true, true, true, false, false, false, false, false, false, false, false, false, false, false] rfl rfl (any_of HT_.out (by kernel_rfl)) (fun _ _ _ h => h) (Or.inl ⟨by rfl, ?_⟩) ?_ ?_
 rotate_left
 ·intro w'
  go_simp
  with_reducible rfl
 rotate_left
 ·simp only [Act.put, sT, sZ, sS, i64_w, i32_w]
  rfl
 refine pure_ (i := 6) (N := some 24) (v := ?_) (a' := ?_) #[true, true, true, true, true, true, true, false, false, false, false, false, false, false, false, false, false] rfl rfl (any_of HT_.out (by kernel_rfl)) (fun _ _ _ h => h) (Or.inl ⟨by rfl, ?_⟩) ?_ ?_
 rotate_left
 ·intro w'
  go_simp
  with_reducible rfl
 rotate_left
 ·simp only [Act.put, sT, sZ, sS, i64_w, i32_w]
  rfl
 refine pure_ (i := 7) (N := some 25) (v := ?_) (a' := ?_) #[true, true, true, true, true, true, true, true, false, false, false, false, false, false, false, false, false] rfl rfl (any_of HT_.out (by kernel_rfl)) (fun _ _ _ h => h) (Or.inl ⟨by rfl, ?_⟩) ?_ ?_
 rotate_left
 ·intro w'
  go_simp
  with_reducible rfl
 rotate_left
 ·simp only [Act.put, sT, sZ, sS, i64_w, i32_w]
  rfl
 refine pure_ (i := 9) (N := some 27) (v := ?_) (a' := ?_) #[true, true, true, true, true, true, true, true, false, true, false, false, false, false, false, false, false] rfl rfl (any_of HT_.out (by kernel_rfl)) (fun _ _ _ h => h) (Or.inl ⟨by rfl, ?_⟩) ?_ ?_
 rotate_left
 ·intro w'
  go_simp
  with_reducible rfl
 rotate_left
 ·simp only [Act.put, sT, sZ, sS, i64_w, i32_w]
  rfl
 refine pure_ (i := 10) (N := some 28) (v := ?_) (a' := ?_) #[true, true, true, true, true, true, true, true, false, true, true, false, false, false, false, false, false] rfl rfl (any_of HT_.out (by kernel_rfl)) (fun _ _ _ h => h) (Or.inl ⟨by rfl, ?_⟩) ?_ ?_
 rotate_left
 ·intro w'
  go_simp
  with_reducible rfl
 rotate_left
 ·simp only [Act.put, sT, sZ, sS, i64_w, i32_w]
  rfl
 refine pure_ (i := 11) (N := some 29) (v := ?_) (a' := ?_) #[true, true, true, true, true, true, true, true, false, true, true, true, false, false, false, false, false] rfl rfl (any_of HT_.out (by kernel_rfl)) (fun _ _ _ h => h) (Or.inl ⟨by rfl, ?_⟩) ?_ ?_
 rotate_left
 ·intro w'
  go_simp
  with_reducible rfl
 rotate_left
 ·simp only [Act.put, sT, sZ, sS, i64_w, i32_w]
  rfl
 refine pure_ (i := 12) (N := some 30) (v := ?_) (a' := ?_) #[true, true, true, true, true, true, true, true, false, true, true, true, true, false, false, false, false] rfl rfl (any_of HT_.out (by kernel_rfl)) (fun _ _ _ h => h) (Or.inl ⟨by rfl, ?_⟩) ?_ ?_
 rotate_left
 ·intro w'
  go_simp
  with_reducible rfl
 rotate_left
 ·simp only [Act.put, sT, sZ, sS, i64_w, i32_w]
  rfl
 refine take_ (i := 8) (N := some 26) (v := ?_) (a' := ?_) #[true, true, true, true, true, true, true, true, true, true, true, true, true, false, false, false, false] rfl rfl (take_ofW HT_.out HW_.out (by kernel_rfl)) (fun _ _ _ h => h) (Or.inl ⟨by rfl, ?_⟩) hHeld ?_ ?_
 rotate_left
 ·rintro w' ⟨s0, s1, s2, s3, s4, s5⟩
  go_simp
  with_reducible rfl
 rotate_left
 ·simp only [Act.put, sT, sZ, sS, i64_w, i32_w]
  rfl
 refine take_ (i := 13) (N := some 31) (v := ?_) (a' := ?_) #[true, true, true, true, true, true, true, true, true, true, true, true, true, true, false, false, false] rfl rfl (take_ofW HT_.out HW_.out (by kernel_rfl)) (fun _ _ _ h => h) (Or.inl ⟨by rfl, ?_⟩) hHeld ?_ ?_
 rotate_left
 ·rintro w' ⟨s0, s1, s2, s3, s4, s5⟩
  go_simp
  with_reducible rfl
 rotate_left
 ·simp only [Act.put, sT, sZ, sS, i64_w, i32_w]
  rfl
 refine one_ (i := 14) (N := some 32) #[true, true, true, true, true, true, true, true, true, true, true, true, true, true, true, false, false] rfl rfl (one_of HT_.out (by kernel_rfl)) (by decide) (fun K hK => ?_)
 refine goesV Try.func30 (by kernel_rfl) rfl #[.agg #[.string ((rd_T29 x0_2 x9_2).f0), .int .i64 ((rd_T29 x0_2 x9_2).f1), .bool ((rd_T29 x0_2 x9_2).f2)], .agg #[.string ((rd_T29 x0_2 (ji9)).f0), .int .i64 ((rd_T29 x0_2 (ji9)).f1), .bool ((rd_T29 x0_2 (ji9)).f2)]] (by rfl) rfl rfl (by (try simp only [List.map_toArray, List.map_cons, List.map_nil]); first | done | (simp only [hji9]; rfl) | rfl | (simp only [List.length_drop, List.length_take]; rfl)) ?_
 with_reducible refine (outbox_Latest_1_v22.calls k2 ((rd_T29 x0_2 x9_2).f0) ((rd_T29 x0_2 x9_2).f1) ((rd_T29 x0_2 x9_2).f2) ((rd_T29 x0_2 (ji9)).f0) ((rd_T29 x0_2 (ji9)).f1) ((rd_T29 x0_2 (ji9)).f2) t131 _ A12.out).mono ?_
 rintro e w18 ⟨rfl, hb⟩
 have HS0_ := (hb.cell (World.block_lt_of_cell? _ _ (hHeld.1))).trans (hHeld.1)
 have HS1_ := (hb.cell (World.block_lt_of_cell? _ _ (hHeld.2.1))).trans (hHeld.2.1)
 have HS2_ := (hb.cell (World.block_lt_of_cell? _ _ (hHeld.2.2.1))).trans (hHeld.2.2.1)
 have HS3_ := (hb.cell (World.block_lt_of_cell? _ _ (hHeld.2.2.2.1))).trans (hHeld.2.2.2.1)
 have HS4_ := (hb.cell (World.block_lt_of_cell? _ _ (hHeld.2.2.2.2.1))).trans (hHeld.2.2.2.2.1)
 have HS5_ := (hb.cell (World.block_lt_of_cell? _ _ (hHeld.2.2.2.2.2))).trans (hHeld.2.2.2.2.2)
 refine ⟨_, rfl, ?_⟩
 have n0_ := Aside0.mk (Kd.R_below (rL HO_0.out) hb)
 have n1_ := Aside0.mk (Kept.below (S := (fun k_ => P0_ k_)) (by repeat (first | (with_reducible first | exact HK.out | apply Kept.alloc | apply Kept.drewN | apply Kept.drew) | exact HK.out)) hb)
 have n2_ := Aside0.mk (below_step (hL HB.out) hb)
 clear HO_0
 clear HK
 clear HB
 have HO_0 := n0_
 have HK := n1_
 have HB := n2_
 clear n0_ n1_ n2_
 (try clear hb)
 (try clear hb2)
 (try clear hk)
 (try clear hi)
 refine hK.out _ _ ⟨HS0_, HS1_, HS2_, HS3_, HS4_, HS5_⟩ (fun hHeld => ?_)
 clear hK K
 refine norm_ (a' := ?_) ?_ ?_
 rotate_left
 ·show Act.put _ (some 32) _ = _
  simp only [Act.put, sT, sZ, sS, i64_w, i32_w]
  rfl
 refine pure_ (i := 15) (N := some 33) (v := ?_) (a' := ?_) #[true, true, true, true, true, true, true, true, true, true, true, true, true, true, true, true, false] rfl rfl (any_of HT_.out (by kernel_rfl)) (fun _ _ _ h => h) (Or.inl ⟨by rfl, ?_⟩) ?_ ?_
 rotate_left
 ·intro w'
  go_simp
  with_reducible rfl
 rotate_left
 ·simp only [Act.put, sT, sZ, sS, i64_w, i32_w]
  rfl
 refine pure_ (i := 16) (N := some 34) (v := ?_) (a' := ?_) #[true, true, true, true, true, true, true, true, true, true, true, true, true, true, true, true, true] rfl rfl (any_of HT_.out (by kernel_rfl)) (fun _ _ _ h => h) (Or.inl ⟨by rfl, ?_⟩) ?_ ?_
 rotate_left
 ·intro w'
  go_simp
  with_reducible rfl
 rotate_left
 ·simp only [Act.put, sT, sZ, sS, i64_w, i32_w]
  rfl
 refine done_ (done_of HT_.out (by kernel_rfl)) ?_
 try go_wp2
 have n0_ := Aside0.mk (Kd.R_drew HO_0.out)
 have n1_ := Aside0.mk (Kept.drew HK.out)
 have n2_ := Aside0.mk (below_drew1 HB.out)
 clear HO_0
 clear HK
 clear HB
 have HO_0 := n0_
 have HK := n1_
 have HB := n2_
 clear n0_ n1_ n2_
 have p132 : 0 ≤ ((ji9) : Int) := of_decide_eq_true (by first | (with_reducible assumption) | assumption)
 have q132 : (ji9) < (x0_2.length : Int) := of_decide_eq_true (by first | (with_reducible assumption) | assumption)
 obtain ⟨ad132, e132, hx132_0, hx132_1, hx132_2⟩ := at_T29 (Kd.R_reads' HO_0.out).2.2 (ji9) p132 q132
 obtain rfl : ad129 = ad132 := (by injection e132)
 replace p132 := eq_true p132
 replace q132 := eq_true q132
 have p133 : 0 ≤ (x9_2 : Int) := of_decide_eq_true (by first | (with_reducible assumption) | assumption)
 have q133 : x9_2 < (x0_2.length : Int) := of_decide_eq_true (by first | (with_reducible assumption) | assumption)
 obtain ⟨ad133, e133, hx133_0, hx133_1, hx133_2⟩ := at_T29 (Kd.R_reads' HO_0.out).2.2 x9_2 p133 q133
 obtain rfl : ad129 = ad133 := (by injection e133)
 replace p133 := eq_true p133
 replace q133 := eq_true q133
 have p14 : 0 ≤ (x9_2 : Int) := of_decide_eq_true (by first | (with_reducible assumption) | assumption)
 have q14 : (x9_2 : Int) < ((x0_2.length : Int) : Int) := of_decide_eq_true (by first | (with_reducible assumption) | assumption)
 obtain ⟨go14, co14, eo14, gb14, gl14, cl14, HG14⟩ := Kd.R_form HO_0.out (by omega)
 (first | cases eo14 | (injection eo14 with ea_ en_ ec_; (first | subst ea_ | (injection ea_ with ea_; subst ea_)); subst ec_; clear en_))
 have GB14 := Aside0.mk gb14
 have GG14 := Aside0.mk HG14
 clear gb14 gl14 HG14
 have HMgo14 := Aside0.mk (show (P0_ go14 ∨ w.heap.size ≤ go14) from (HO_0.out.1 _ rfl))
 (first | simp only [add_plain] at hx129_0 | skip)
 (first | simp only [add_plain] at hx129_1 | skip)
 (first | simp only [add_plain] at hx129_2 | skip)
 (first | simp only [add_plain] at hx130_0 | skip)
 (first | simp only [add_plain] at hx130_1 | skip)
 (first | simp only [add_plain] at hx130_2 | skip)
 (first | simp only [add_plain] at hx132_0 | skip)
 (first | simp only [add_plain] at hx132_1 | skip)
 (first | simp only [add_plain] at hx132_2 | skip)
 (first | simp only [add_plain] at hx133_0 | skip)
 (first | simp only [add_plain] at hx133_1 | skip)
 (first | simp only [add_plain] at hx133_2 | skip)
 obtain ⟨ce14, hcl14, hM14, hcc14, hfr14⟩ := Kd.R_elem HO_0.out z29 (x9_2 : Int) p14 q14
 obtain rfl := k29_openM hM14
 have hx14_0 : World.cell? _ ⟨go14, (x9_2 : Int).toNat * 3, none⟩ = some (.string ((rd_T29 x0_2 x9_2).f0)) := hcc14 0 _ rfl
 have hx14_1 : World.cell? _ ⟨go14, (x9_2 : Int).toNat * 3 + 1, none⟩ = some (.int .i64 ((rd_T29 x0_2 x9_2).f1)) := hcc14 1 _ rfl
 have hx14_2 : World.cell? _ ⟨go14, (x9_2 : Int).toNat * 3 + 2, none⟩ = some (.bool ((rd_T29 x0_2 x9_2).f2)) := hcc14 2 _ rfl
 have hf14_0 : World.frozen? _ ⟨go14, (x9_2 : Int).toNat * 3, none⟩ = false := hfr14 0
 have hf14_1 : World.frozen? _ ⟨go14, (x9_2 : Int).toNat * 3 + 1, none⟩ = false := hfr14 1
 have hf14_2 : World.frozen? _ ⟨go14, (x9_2 : Int).toNat * 3 + 2, none⟩ = false := hfr14 2
 clear hcl14 hcc14 hfr14 hM14
 replace p14 := eq_true p14
 replace q14 := eq_true q14
 obtain ⟨ce20, hcl20, hM20, hcc20, hfr20⟩ := Kd.R_elem HO_0.out z29 (x9_2 : Int) (of_decide_eq_true (by first | (with_reducible assumption) | assumption)) (by have h_ : (x9_2 : Int) < ((x0_2.length : Int) : Int) := of_decide_eq_true (by first | (with_reducible assumption) | assumption); first | exact h_ | (have e_ := (Kd.R_reads' HO_0.out).1; omega) | simpa using h_)
 obtain rfl := k29_openM hM20
 have HP20 := (Kd.R_seg HO_0.out (x9_2 : Int) (of_decide_eq_true (by first | (with_reducible assumption) | assumption)) (by have h_ : (x9_2 : Int) < ((x0_2.length : Int) : Int) := of_decide_eq_true (by first | (with_reducible assumption) | assumption); first | exact h_ | (have e_ := (Kd.R_reads' HO_0.out).1; omega) | simpa using h_) (seg := [.string ((rd_T29 x0_2 (ji9)).f0), .int .i64 ((rd_T29 x0_2 (ji9)).f1), .bool ((rd_T29 x0_2 (ji9)).f2)]) (j := 0) hcl20 hcc20 (show 3 ≤ 3 from by decide) (x' := (⟨(rd_T29 x0_2 (ji9)).f0, (rd_T29 x0_2 (ji9)).f1, (rd_T29 x0_2 (ji9)).f2⟩ : S29)) (k29_mkM _ _ _ (⟨(rd_T29 x0_2 (ji9)).f0, (rd_T29 x0_2 (ji9)).f1, (rd_T29 x0_2 (ji9)).f2⟩ : S29) ) (fun _ hk => hk)).1
 rw [← Ny134.out] at HP20
 have HQ20 := Aside0.mk HP20
 clear hcl20 hcc20 hfr20 hM20 HP20
 have p15 : 0 ≤ ((ji9) : Int) := of_decide_eq_true (by first | (with_reducible assumption) | assumption)
 have q15 : ((ji9) : Int) < ((x0_2.length : Int) : Int) := of_decide_eq_true (by first | (with_reducible assumption) | assumption)
 obtain ⟨ce15, hcl15, hM15, hcc15, hfr15⟩ := Kd.R_elem HQ20.out z29 ((ji9) : Int) p15 q15
 obtain rfl := k29_openM hM15
 have hx15_0 : World.cell? _ ⟨go14, ((ji9) : Int).toNat * 3, none⟩ = some (.string ((rd_T29 y134 (ji9)).f0)) := hcc15 0 _ rfl
 have hx15_1 : World.cell? _ ⟨go14, ((ji9) : Int).toNat * 3 + 1, none⟩ = some (.int .i64 ((rd_T29 y134 (ji9)).f1)) := hcc15 1 _ rfl
 have hx15_2 : World.cell? _ ⟨go14, ((ji9) : Int).toNat * 3 + 2, none⟩ = some (.bool ((rd_T29 y134 (ji9)).f2)) := hcc15 2 _ rfl
 have hf15_0 : World.frozen? _ ⟨go14, ((ji9) : Int).toNat * 3, none⟩ = false := hfr15 0
 have hf15_1 : World.frozen? _ ⟨go14, ((ji9) : Int).toNat * 3 + 1, none⟩ = false := hfr15 1
 have hf15_2 : World.frozen? _ ⟨go14, ((ji9) : Int).toNat * 3 + 2, none⟩ = false := hfr15 2
 clear hcl15 hcc15 hfr15 hM15
 replace p15 := eq_true p15
 replace q15 := eq_true q15
 obtain ⟨ce21, hcl21, hM21, hcc21, hfr21⟩ := Kd.R_elem HQ20.out z29 ((ji9) : Int) (of_decide_eq_true (by first | (with_reducible assumption) | assumption)) (by have h_ : ((ji9) : Int) < ((x0_2.length : Int) : Int) := of_decide_eq_true (by first | (with_reducible assumption) | assumption); first | exact h_ | (have e_ := (Kd.R_reads' HO_0.out).1; omega) | simpa using h_)
 obtain rfl := k29_openM hM21
 have HP21 := (Kd.R_seg HQ20.out ((ji9) : Int) (of_decide_eq_true (by first | (with_reducible assumption) | assumption)) (by have h_ : ((ji9) : Int) < ((x0_2.length : Int) : Int) := of_decide_eq_true (by first | (with_reducible assumption) | assumption); first | exact h_ | (have e_ := (Kd.R_reads' HO_0.out).1; omega) | simpa using h_) (seg := [.string ((rd_T29 x0_2 x9_2).f0), .int .i64 ((rd_T29 x0_2 x9_2).f1), .bool ((rd_T29 x0_2 x9_2).f2)]) (j := 0) hcl21 hcc21 (show 3 ≤ 3 from by decide) (x' := (⟨(rd_T29 x0_2 x9_2).f0, (rd_T29 x0_2 x9_2).f1, (rd_T29 x0_2 x9_2).f2⟩ : S29)) (k29_mkM _ _ _ (⟨(rd_T29 x0_2 x9_2).f0, (rd_T29 x0_2 x9_2).f1, (rd_T29 x0_2 x9_2).f2⟩ : S29) ) (fun _ hk => hk)).1
 rw [← Ny135.out] at HP21
 have HQ21 := Aside0.mk HP21
 clear hcl21 hcc21 hfr21 hM21 HP21
 (try have hnnA_ : ¬ ((ji9).toNat = (x9_2).toNat) := fun e0_ => (fun e_ => by have h1_ := (show (0 : Int) ≤ x9_2 by first | assumption | (exact of_eq_true (by assumption)) | (exact of_decide_eq_true (by assumption))); have h2_ := (show (0 : Int) ≤ ji9 by first | assumption | (exact of_eq_true (by assumption)) | (exact of_decide_eq_true (by assumption))); have h3_ : x9_2 = ji9 := (by omega); have h4_ := hji9; rw [← h3_] at h4_; unfold wrap64 at h4_; omega) e0_)
 (try simp only [World.frozen?_setCells] at hf14_0)
 (try simp only [World.frozen?_setCells] at hf14_1)
 (try simp only [World.frozen?_setCells] at hf14_2)
 (try simp only [World.frozen?_setCells] at hf15_0)
 (try simp only [World.frozen?_setCells] at hf15_1)
 (try simp only [World.frozen?_setCells] at hf15_2)
 (try have hnnB_ : ¬ ((x9_2).toNat = (ji9).toNat) := fun e_ => hnnA_ e_.symm)
 refine start_ (n := 18) (S := fun w' => w'.cell? ⟨go14, (((ji9)).toNat * 3), none⟩ = some (.string ((rd_T29 x0_2 (ji9)).f0)) ∧ w'.cell? ⟨go14, (((ji9)).toNat * 3) + 1, none⟩ = some (.int .i64 ((rd_T29 x0_2 (ji9)).f1)) ∧ w'.cell? ⟨go14, (((ji9)).toNat * 3) + 2, none⟩ = some (.bool ((rd_T29 x0_2 (ji9)).f2)) ∧ w'.cell? ⟨go14, ((x9_2).toNat * 3), none⟩ = some (.string ((rd_T29 x0_2 x9_2).f0)) ∧ w'.cell? ⟨go14, ((x9_2).toNat * 3) + 1, none⟩ = some (.int .i64 ((rd_T29 x0_2 x9_2).f1)) ∧ w'.cell? ⟨go14, ((x9_2).toNat * 3) + 2, none⟩ = some (.bool ((rd_T29 x0_2 x9_2).f2))) (ds := [15, 17]) #[false, false, false, false, false, false, false, false, false, false, false, false, false, false, false, false, false, false] (by kernel_rfl) rfl rfl ⟨hx132_0, hx132_1, hx132_2, hx133_0, hx133_1, hx133_2⟩ (fun hHeld => ?_); refine with_tabW slices_insertionSortCmpFunc_api_Intent_at_outbox_Latest_1.tab6 slices_insertionSortCmpFunc_api_Intent_at_outbox_Latest_1.bits6 (fun HT_ HW_ => ?_)
 generalize w18.drew = w19 at HO_0 HK HB GG14 HQ20 HQ21 hf14_0 hf14_1 hf14_2 hf15_0 hf15_1 hf15_2 hx129_0 hx129_1 hx129_2 hx130_0 hx130_1 hx130_2 hx132_0 hx132_1 hx132_2 hx133_0 hx133_1 hx133_2 hx14_0 hx14_1 hx14_2 hx15_0 hx15_1 hx15_2 hHeld ⊢
 refine pure_ (i := 0) (N := some 37) (v := ?_) (a' := ?_) #[true, false, false, false, false, false, false, false, false, false, false, false, false, false, false, false, false, false] rfl rfl (any_of HT_.out (by kernel_rfl)) (fun _ _ _ h => h) (Or.inl ⟨by rfl, ?_⟩) ?_ ?_
 rotate_left
 ·intro w'
  go_simp
  with_reducible rfl
 rotate_left
 ·simp only [Act.put, sT, sZ, sS, i64_w, i32_w]
  rfl
 refine pure_ (i := 1) (N := some 38) (v := ?_) (a' := ?_) #[true, true, false, false, false, false, false, false, false, false, false, false, false, false, false, false, false, false] rfl rfl (any_of HT_.out (by kernel_rfl)) (fun _ _ _ h => h) (Or.inl ⟨by rfl, ?_⟩) ?_ ?_
 rotate_left
 ·intro w'
  go_simp
  with_reducible rfl
 rotate_left
 ·simp only [Act.put, sT, sZ, sS, i64_w, i32_w]
  rfl
 refine pure_ (i := 2) (N := some 39) (v := ?_) (a' := ?_) #[true, true, true, false, false, false, false, false, false, false, false, false, false, false, false, false, false, false] rfl rfl (any_of HT_.out (by kernel_rfl)) (fun _ _ _ h => h) (Or.inl ⟨by rfl, ?_⟩) ?_ ?_
 rotate_left
 ·intro w'
  go_simp
  with_reducible rfl
 rotate_left
 ·simp only [Act.put, sT, sZ, sS, i64_w, i32_w]
  rfl
 refine pure_ (i := 3) (N := some 40) (v := ?_) (a' := ?_) #[true, true, true, true, false, false, false, false, false, false, false, false, false, false, false, false, false, false] rfl rfl (any_of HT_.out (by kernel_rfl)) (fun _ _ _ h => h) (Or.inl ⟨by rfl, ?_⟩) ?_ ?_
 rotate_left
 ·intro w'
  go_simp
  with_reducible rfl
 rotate_left
 ·simp only [Act.put, sT, sZ, sS, i64_w, i32_w]
  rfl
 refine pure_ (i := 4) (N := some 41) (v := ?_) (a' := ?_) #[true, true, true, true, true, false, false, false, false, false, false, false, false, false, false, false, false, false] rfl rfl (any_of HT_.out (by kernel_rfl)) (fun _ _ _ h => h) (Or.inl ⟨by rfl, ?_⟩) ?_ ?_
 rotate_left
 ·intro w'
  go_simp
  with_reducible rfl
 rotate_left
 ·simp only [Act.put, sT, sZ, sS, i64_w, i32_w]
  rfl
 refine pure_ (i := 5) (N := some 42) (v := ?_) (a' := ?_) #[true, true, true, true, true, true, false, false, false, false, false, false, false, false, false, false, false, false] rfl rfl (any_of HT_.out (by kernel_rfl)) (fun _ _ _ h => h) (Or.inl ⟨by rfl, ?_⟩) ?_ ?_
 rotate_left
 ·intro w'
  go_simp
  with_reducible rfl
 rotate_left
 ·simp only [Act.put, sT, sZ, sS, i64_w, i32_w]
  rfl
 refine pure_ (i := 6) (N := some 43) (v := ?_) (a' := ?_) #[true, true, true, true, true, true, true, false, false, false, false, false, false, false, false, false, false, false] rfl rfl (any_of HT_.out (by kernel_rfl)) (fun _ _ _ h => h) (Or.inl ⟨by rfl, ?_⟩) ?_ ?_
 rotate_left
 ·intro w'
  go_simp
  with_reducible rfl
 rotate_left
 ·simp only [Act.put, sT, sZ, sS, i64_w, i32_w]
  rfl
 refine pure_ (i := 7) (N := some 44) (v := ?_) (a' := ?_) #[true, true, true, true, true, true, true, true, false, false, false, false, false, false, false, false, false, false] rfl rfl (any_of HT_.out (by kernel_rfl)) (fun _ _ _ h => h) (Or.inl ⟨by rfl, ?_⟩) ?_ ?_
 rotate_left
 ·intro w'
  go_simp
  with_reducible rfl
 rotate_left
 ·simp only [Act.put, sT, sZ, sS, i64_w, i32_w]
  rfl
 refine pure_ (i := 8) (N := some 45) (v := ?_) (a' := ?_) #[true, true, true, true, true, true, true, true, true, false, false, false, false, false, false, false, false, false] rfl rfl (any_of HT_.out (by kernel_rfl)) (fun _ _ _ h => h) (Or.inl ⟨by rfl, ?_⟩) ?_ ?_
 rotate_left
 ·intro w'
  go_simp
  with_reducible rfl
 rotate_left
 ·simp only [Act.put, sT, sZ, sS, i64_w, i32_w]
  rfl
 refine pure_ (i := 10) (N := some 47) (v := ?_) (a' := ?_) #[true, true, true, true, true, true, true, true, true, false, true, false, false, false, false, false, false, false] rfl rfl (any_of HT_.out (by kernel_rfl)) (fun _ _ _ h => h) (Or.inl ⟨by rfl, ?_⟩) ?_ ?_
 rotate_left
 ·intro w'
  go_simp
  with_reducible rfl
 rotate_left
 ·simp only [Act.put, sT, sZ, sS, i64_w, i32_w]
  rfl
 refine pure_ (i := 11) (N := some 48) (v := ?_) (a' := ?_) #[true, true, true, true, true, true, true, true, true, false, true, true, false, false, false, false, false, false] rfl rfl (any_of HT_.out (by kernel_rfl)) (fun _ _ _ h => h) (Or.inl ⟨by rfl, ?_⟩) ?_ ?_
 rotate_left
 ·intro w'
  go_simp
  with_reducible rfl
 rotate_left
 ·simp only [Act.put, sT, sZ, sS, i64_w, i32_w]
  rfl
 refine pure_ (i := 12) (N := some 49) (v := ?_) (a' := ?_) #[true, true, true, true, true, true, true, true, true, false, true, true, true, false, false, false, false, false] rfl rfl (any_of HT_.out (by kernel_rfl)) (fun _ _ _ h => h) (Or.inl ⟨by rfl, ?_⟩) ?_ ?_
 rotate_left
 ·intro w'
  go_simp
  with_reducible rfl
 rotate_left
 ·simp only [Act.put, sT, sZ, sS, i64_w, i32_w]
  rfl
 refine take_ (i := 9) (N := some 46) (v := ?_) (a' := ?_) #[true, true, true, true, true, true, true, true, true, true, true, true, true, false, false, false, false, false] rfl rfl (take_ofW HT_.out HW_.out (by kernel_rfl)) (fun _ _ _ h => h) (Or.inl ⟨by rfl, ?_⟩) hHeld ?_ ?_
 rotate_left
 ·rintro w' ⟨s0, s1, s2, s3, s4, s5⟩
  go_simp
  with_reducible rfl
 rotate_left
 ·simp only [Act.put, sT, sZ, sS, i64_w, i32_w]
  rfl
 refine take_ (i := 13) (N := some 50) (v := ?_) (a' := ?_) #[true, true, true, true, true, true, true, true, true, true, true, true, true, true, false, false, false, false] rfl rfl (take_ofW HT_.out HW_.out (by kernel_rfl)) (fun _ _ _ h => h) (Or.inl ⟨by rfl, ?_⟩) hHeld ?_ ?_
 rotate_left
 ·rintro w' ⟨s0, s1, s2, s3, s4, s5⟩
  go_simp
  with_reducible rfl
 rotate_left
 ·simp only [Act.put, sT, sZ, sS, i64_w, i32_w]
  rfl
 refine pure_ (i := 14) (N := some 51) (v := ?_) (a' := ?_) #[true, true, true, true, true, true, true, true, true, true, true, true, true, true, true, false, false, false] rfl rfl (any_of HT_.out (by kernel_rfl)) (fun _ _ _ h => h) (Or.inl ⟨by rfl, ?_⟩) ?_ ?_
 rotate_left
 ·intro w'
  go_simp
  with_reducible rfl
 rotate_left
 ·simp only [Act.put, sT, sZ, sS, i64_w, i32_w]
  rfl
 refine last_ (i := 15) (N := none) #[true, true, true, true, true, true, true, true, true, true, true, true, true, true, true, true, false, false] rfl rfl (one_of HT_.out (by kernel_rfl)) (by decide) (fun K hK => ?_)
 refine skip_ (w1 := ?_) (by rfl) rfl ?_ ?_
 rotate_left
 ·go_simp
  rfl
 refine hK.out _ _ ?_
 clear hK K
 refine pure_ (i := 16) (N := some 52) (v := ?_) (a' := ?_) #[true, true, true, true, true, true, true, true, true, true, true, true, true, true, true, true, true, false] rfl rfl (any_of HT_.out (by kernel_rfl)) (fun _ _ _ h => h) (Or.inl ⟨by rfl, ?_⟩) ?_ ?_
 rotate_left
 ·intro w'
  go_simp
  with_reducible rfl
 rotate_left
 ·simp only [Act.put, sT, sZ, sS, i64_w, i32_w]
  rfl
 refine last_ (i := 17) (N := none) #[true, true, true, true, true, true, true, true, true, true, true, true, true, true, true, true, true, true] rfl rfl (one_of HT_.out (by kernel_rfl)) (by decide) (fun K hK => ?_)
 refine skip_ (w1 := ?_) (by rfl) rfl ?_ ?_
 rotate_left
 ·go_simp
  rfl
 refine hK.out _ _ ?_
 clear hK K
 refine done_ (done_of HT_.out (by kernel_rfl)) ?_
 try go_wp2
 go_roundg k2
 case measure => have := HK1.out; have := HK2.out; omega
 case rel => exact ⟨(y135), (ji9), (by first | rfl | (simp; done) | (simp only [← hji9] <;> (first | rfl | simp)) | (simp [*]; done)), H', ⟨by have := HK1.out; have := HK2.out; omega⟩, ⟨by exact (by first | exact rL HQ21.out | exact HQ21.out)⟩, ⟨by repeat (first | (with_reducible first | exact HK.out | apply Kept.alloc | apply Kept.drewN | apply Kept.drew | refine Kept.setCell ?_ HMgo14.out _ | refine Kept.setCell ?_ HMgo14.out _ | refine Kept.setCell ?_ HMgo14.out _ | refine Kept.setCell ?_ HMgo14.out _ | refine Kept.setCell ?_ HMgo14.out _ | refine Kept.setCell ?_ HMgo14.out _) | exact HK.out)⟩, ⟨by repeat (first | (with_reducible first | exact HB.out | apply below_alloc | apply pw_below_drewN | apply below_drew1 | refine below_set ?_ GB14.out | refine below_set ?_ GB14.out | refine below_set ?_ GB14.out | refine below_set ?_ GB14.out | refine below_set ?_ GB14.out | refine below_set ?_ GB14.out) | exact HB.out)⟩⟩

end Go.Proofs.Ytdaikljbljcagaa.PAll
