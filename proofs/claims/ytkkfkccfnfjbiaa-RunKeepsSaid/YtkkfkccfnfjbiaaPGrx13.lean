-- Written by a program of this session for this claim (mp.py, over the kit's print); Lean checks it.
import Derived.Test.YtkkfkccfnfjbiaaPGrx0
import Derived.Test.YtkkfkccfnfjbiaaPGrx8
import Derived.Test.YtkkfkccfnfjbiaaPGrx11
import Derived.Test.YtkkfkccfnfjbiaaPGrx12
namespace Go.Proofs.Ytkkfkccfnfjbiaa.PGr
open Go.RowKit Go.Proofs.YtkkfkccfnfjbiaaW.PrintWords Go.Proofs.YtkkfkccfnfjbiaaW.PrintLast Go.Proofs.YtkkfkccfnfjbiaaW.PrintMore Go.Proofs.Ytkkfkccfnfjbiaa.Fv Go.Proofs.Ytkkfkccfnfjbiaa.Hl
attribute [local go_sem] max2_int min2_int max_two min_two max_three min_three max_four min_four str_gtr str_leq str_geq cell_set2   -- for this text's walks alone
set_option linter.unusedVariables false
set_option linter.unusedSimpArgs false

/-! ### slices_stableCmpFunc_api_Change_at_run_byKey: function 58 -/
mutual
def slices_stableCmpFunc_api_Change_at_run_byKey.l0 : Nat → List (S37) → Int → Int → Int → Int → Option ((List (S37)))
 | 0, _, _, _, _, _ => none
 | k + 1, x0, x1, x6, x7, x8 => if x8 ≤ x1 then ((slices_insertionSortCmpFunc_api_Change_at_run_byKey.f k x0 x7 x8).bind fun t201 => (slices_stableCmpFunc_api_Change_at_run_byKey.l0 k t201 x1 x6 x8 (wrap64 (x8 + x6)))) else ((slices_insertionSortCmpFunc_api_Change_at_run_byKey.f k x0 x7 x1).bind fun t202 => (slices_stableCmpFunc_api_Change_at_run_byKey.l1 k t202 x1 x6))
def slices_stableCmpFunc_api_Change_at_run_byKey.l1 : Nat → List (S37) → Int → Int → Option ((List (S37)))
 | 0, _, _, _ => none
 | k + 1, x0, x1, x6 => if x6 < x1 then (slices_stableCmpFunc_api_Change_at_run_byKey.l2 k x0 x1 x6 0 (wrap64 (2 * x6))) else (some x0)
def slices_stableCmpFunc_api_Change_at_run_byKey.l2 : Nat → List (S37) → Int → Int → Int → Int → Option ((List (S37)))
 | 0, _, _, _, _, _ => none
 | k + 1, x0, x1, x6, x7, x8 => if x8 ≤ x1 then ((slices_symMergeCmpFunc_api_Change_at_run_byKey.f k x0 x7 (wrap64 (x7 + x6)) x8).bind fun t203 => (slices_stableCmpFunc_api_Change_at_run_byKey.l2 k t203 x1 x6 x8 (wrap64 (x8 + (wrap64 (2 * x6)))))) else (if (wrap64 (x7 + x6)) < x1 then ((slices_symMergeCmpFunc_api_Change_at_run_byKey.f k x0 x7 (wrap64 (x7 + x6)) x1).bind fun t204 => (slices_stableCmpFunc_api_Change_at_run_byKey.l1 k t204 x1 (wrap64 (x6 * 2)))) else (slices_stableCmpFunc_api_Change_at_run_byKey.l1 k x0 x1 (wrap64 (x6 * 2))))
end
def slices_stableCmpFunc_api_Change_at_run_byKey.f (k : Nat) (l0 : List (S37)) (a1 : Int)  : Option ((List (S37))) := slices_stableCmpFunc_api_Change_at_run_byKey.l0 k l0 a1 20 0 20
theorem slices_stableCmpFunc_api_Change_at_run_byKey.mono_l : ∀ k, (∀ y0 y1 y2 y3 y4, LeO (slices_stableCmpFunc_api_Change_at_run_byKey.l0 k y0 y1 y2 y3 y4) (slices_stableCmpFunc_api_Change_at_run_byKey.l0 (k + 1) y0 y1 y2 y3 y4)) ∧ (∀ y0 y1 y2, LeO (slices_stableCmpFunc_api_Change_at_run_byKey.l1 k y0 y1 y2) (slices_stableCmpFunc_api_Change_at_run_byKey.l1 (k + 1) y0 y1 y2)) ∧ (∀ y0 y1 y2 y3 y4, LeO (slices_stableCmpFunc_api_Change_at_run_byKey.l2 k y0 y1 y2 y3 y4) (slices_stableCmpFunc_api_Change_at_run_byKey.l2 (k + 1) y0 y1 y2 y3 y4))
 | 0 => ⟨fun _ _ _ _ _ r h => by simp [slices_stableCmpFunc_api_Change_at_run_byKey.l0] at h, fun _ _ _ r h => by simp [slices_stableCmpFunc_api_Change_at_run_byKey.l1] at h, fun _ _ _ _ _ r h => by simp [slices_stableCmpFunc_api_Change_at_run_byKey.l2] at h⟩
 | k + 1 => by
  obtain ⟨ih0, ih1, ih2⟩ := slices_stableCmpFunc_api_Change_at_run_byKey.mono_l k
  refine ⟨?_, ?_, ?_⟩
  ·intro y0 y1 y2 y3 y4
   unfold slices_stableCmpFunc_api_Change_at_run_byKey.l0
   repeat' first
   | (with_reducible exact ih0 _ _ _ _ _)
   | (with_reducible exact ih1 _ _ _)
   | (with_reducible exact ih2 _ _ _ _ _)
   | (with_reducible exact slices_insertionSortCmpFunc_api_Change_at_run_byKey.mono _ _ _ _)
   | (with_reducible exact slices_symMergeCmpFunc_api_Change_at_run_byKey.mono _ _ _ _ _)
   | (with_reducible exact LeO.refl _)
   | (with_reducible exact LeO.none _)
   | (with_reducible refine LeO.ite ?_ ?_)
   | (with_reducible refine LeO.bind ?_ (fun _ => ?_))
   | exact ih0 _ _ _ _ _
   | exact ih1 _ _ _
   | exact ih2 _ _ _ _ _
   | exact slices_insertionSortCmpFunc_api_Change_at_run_byKey.mono _ _ _ _
   | exact slices_symMergeCmpFunc_api_Change_at_run_byKey.mono _ _ _ _ _
   | exact LeO.none _
   | refine LeO.ite ?_ ?_
   | refine LeO.bind ?_ (fun _ => ?_)
  ·intro y0 y1 y2
   unfold slices_stableCmpFunc_api_Change_at_run_byKey.l1
   repeat' first
   | (with_reducible exact ih0 _ _ _ _ _)
   | (with_reducible exact ih1 _ _ _)
   | (with_reducible exact ih2 _ _ _ _ _)
   | (with_reducible exact slices_insertionSortCmpFunc_api_Change_at_run_byKey.mono _ _ _ _)
   | (with_reducible exact slices_symMergeCmpFunc_api_Change_at_run_byKey.mono _ _ _ _ _)
   | (with_reducible exact LeO.refl _)
   | (with_reducible exact LeO.none _)
   | (with_reducible refine LeO.ite ?_ ?_)
   | (with_reducible refine LeO.bind ?_ (fun _ => ?_))
   | exact ih0 _ _ _ _ _
   | exact ih1 _ _ _
   | exact ih2 _ _ _ _ _
   | exact slices_insertionSortCmpFunc_api_Change_at_run_byKey.mono _ _ _ _
   | exact slices_symMergeCmpFunc_api_Change_at_run_byKey.mono _ _ _ _ _
   | exact LeO.none _
   | refine LeO.ite ?_ ?_
   | refine LeO.bind ?_ (fun _ => ?_)
  ·intro y0 y1 y2 y3 y4
   unfold slices_stableCmpFunc_api_Change_at_run_byKey.l2
   repeat' first
   | (with_reducible exact ih0 _ _ _ _ _)
   | (with_reducible exact ih1 _ _ _)
   | (with_reducible exact ih2 _ _ _ _ _)
   | (with_reducible exact slices_insertionSortCmpFunc_api_Change_at_run_byKey.mono _ _ _ _)
   | (with_reducible exact slices_symMergeCmpFunc_api_Change_at_run_byKey.mono _ _ _ _ _)
   | (with_reducible exact LeO.refl _)
   | (with_reducible exact LeO.none _)
   | (with_reducible refine LeO.ite ?_ ?_)
   | (with_reducible refine LeO.bind ?_ (fun _ => ?_))
   | exact ih0 _ _ _ _ _
   | exact ih1 _ _ _
   | exact ih2 _ _ _ _ _
   | exact slices_insertionSortCmpFunc_api_Change_at_run_byKey.mono _ _ _ _
   | exact slices_symMergeCmpFunc_api_Change_at_run_byKey.mono _ _ _ _ _
   | exact LeO.none _
   | refine LeO.ite ?_ ?_
   | refine LeO.bind ?_ (fun _ => ?_)
theorem slices_stableCmpFunc_api_Change_at_run_byKey.mono : ∀ a0 a1 k, LeO (slices_stableCmpFunc_api_Change_at_run_byKey.f k a0 a1) (slices_stableCmpFunc_api_Change_at_run_byKey.f (k + 1) a0 a1) := by
 intro a0 a1 k
 obtain ⟨ih0, ih1, ih2⟩ := slices_stableCmpFunc_api_Change_at_run_byKey.mono_l k
 unfold slices_stableCmpFunc_api_Change_at_run_byKey.f
 repeat' first
   | (with_reducible exact ih0 _ _ _ _ _)
   | (with_reducible exact ih1 _ _ _)
   | (with_reducible exact ih2 _ _ _ _ _)
   | (with_reducible exact slices_insertionSortCmpFunc_api_Change_at_run_byKey.mono _ _ _ _)
   | (with_reducible exact slices_symMergeCmpFunc_api_Change_at_run_byKey.mono _ _ _ _ _)
   | (with_reducible exact LeO.refl _)
   | (with_reducible exact LeO.none _)
   | (with_reducible refine LeO.ite ?_ ?_)
   | (with_reducible refine LeO.bind ?_ (fun _ => ?_))
   | exact ih0 _ _ _ _ _
   | exact ih1 _ _ _
   | exact ih2 _ _ _ _ _
   | exact slices_insertionSortCmpFunc_api_Change_at_run_byKey.mono _ _ _ _
   | exact slices_symMergeCmpFunc_api_Change_at_run_byKey.mono _ _ _ _ _
   | exact LeO.none _
   | refine LeO.ite ?_ ?_
   | refine LeO.bind ?_ (fun _ => ?_)
set_option maxHeartbeats 8000000 in
set_option maxRecDepth 100000 in
theorem slices_stableCmpFunc_api_Change_at_run_byKey.calls (k : Nat) (P0_ : Nat → Prop) (u9000_ : Value) (l0 : List (S37)) (a1 : Int)  (r : List (S37)) (w0 w : World) (hB : Below w0.heap.size w0 w) (ho0 : Kd.R k37 37 w w0.heap.size P0_ u9000_ l0) (h : slices_stableCmpFunc_api_Change_at_run_byKey.f k l0 a1 = some r) :
  Calls Try.prog 58 #[u9000_, .int .i64 a1, .func (.func 47) #[] #[]] w fun e w' => e = .returned (.tuple #[]) ∧ Kd.R k37 37 w' w0.heap.size (fun k_ => (P0_ k_ ∨ w.heap.size ≤ k_)) u9000_ r ∧ Below w0.heap.size w0 w' ∧ Kept w w' (fun k_ => P0_ k_) := by
 have HO0 := Aside0.mk (show Kd.R k37 37 w w0.heap.size (fun k_ => (P0_ k_ ∨ w.heap.size ≤ k_)) u9000_ l0 from Kd.R_mono ho0 (fun k_ hk => (.inl hk)))
 have HK := Aside0.mk (Kept.refl w (fun k_ => P0_ k_))
 have HW0 := Aside0.mk hB.size
 have HB := Aside0.mk hB
 clear hB
 have H : (slices_stableCmpFunc_api_Change_at_run_byKey.l0 k l0 a1 20 0 20) = some r := h
 clear h
 have H' := Aside0.mk H
 clear H
 go_enter Try.func58, Try.ntmps58
 go_wp2
 (try simp only [Act.put, sT, sS, sZ])
 go_loopg [7, 8] k (fun kq v7 v8 w' => ∃ (x0_1 : List (S37)) (x7_1 : Int) (x8_1 : Int), v7 = .int .i64 x7_1 ∧ v8 = .int .i64 x8_1 ∧ Aside0 (slices_stableCmpFunc_api_Change_at_run_byKey.l0 kq x0_1 a1 20 x7_1 x8_1 = some r) ∧ Aside0 (kq ≤ k) ∧ Aside0 (Kd.R k37 37 w' w0.heap.size (fun k_ => (P0_ k_ ∨ w.heap.size ≤ k_)) u9000_ x0_1) ∧ Aside0 (Kept w w' (fun k_ => P0_ k_)) ∧ Aside0 (Below w0.heap.size w0 w'))
 case atStart => exact ⟨(l0), (0), (20), (by first | rfl | (simp; done) | (simp [*]; done) | (simp [ne_nil_bytes]; done) | (simp [eq_nil_bytes]; done)), (by first | rfl | (simp; done) | (simp [*]; done) | (simp [ne_nil_bytes]; done) | (simp [eq_nil_bytes]; done)), H', ⟨Nat.le_refl _⟩, ⟨by exact rL HO0.out⟩, ⟨by repeat (first | (with_reducible first | exact HK.out | apply Kept.alloc | apply Kept.drewN | apply Kept.drew) | exact HK.out)⟩, ⟨hL HB.out⟩⟩
 clear H'
 try clear c1
 try clear p2
 obtain ⟨x0_1, x7_1, x8_1, rfl, rfl, HA, HK1, HO_0, HK, HB⟩ := hrel
 rcases gk with _ | k1
 ·exact absurd HA.out (by simp [slices_stableCmpFunc_api_Change_at_run_byKey.l0])
 have H := HA.out
 clear HA
 simp only [slices_stableCmpFunc_api_Change_at_run_byKey.l0] at H
 by_cases c4 : x8_1 ≤ a1
 ·rw [if_pos c4] at H
  have c4b0 : decide (x8_1 ≤ a1) = true := decide_eq_true c4
  clear c4
  replace H := Option.bind_eq_some_iff.mp H
  obtain ⟨t201, A50, H⟩ := H
  replace H : (slices_stableCmpFunc_api_Change_at_run_byKey.l0 k1 t201 a1 20 x8_1 (wrap64 (x8_1 + 20))) = some r := H
  have A5 := Aside0.mk A50
  clear A50
  have H' := Aside0.mk H
  clear H
  obtain ⟨Ao6, co6, eo6⟩ := Kd.R_slice HO_0.out
  subst eo6
  go_wp2_with (first | ((with_reducible refine gate_callee (f := 61) rfl ?_); refine goesL_ (some 18) rfl rfl Try.func61 (by kernel_rfl) rfl #[.slice Ao6 x0_1.length co6, .int .i64 x7_1, .int .i64 x8_1, .func (.func 47) #[] #[]] rfl (by (try simp only [List.map_toArray, List.map_cons, List.map_nil]); first | done | rfl | (simp only [List.length_drop, List.length_take]; rfl)) ?_; (with_reducible refine (slices_insertionSortCmpFunc_api_Change_at_run_byKey.calls k1 (fun k_ => some k_ = (.slice Ao6 x0_1.length co6 : Value).ownBlock) (.slice Ao6 x0_1.length co6) x0_1 x7_1 x8_1  t201 w0 _ ?side1 ?side2 A5.out).mono ?_); (case side1 => repeat (first | (with_reducible first | exact HB.out | apply below_alloc | apply pw_below_drewN | apply below_drew1) | exact HB.out)); (case side2 => exact Kd.R_tight rfl HO_0.out); rintro e w7 ⟨rfl, hy0, hb, hkp⟩; refine ⟨_, rfl, ?_⟩; have n0_ := Aside0.mk (Kd.R_reok rfl hy0 (fun k_ e_ => HO_0.out.1 k_ e_)); have n1_ := Aside0.mk (Kept.then_ (S := (fun k_ => P0_ k_)) (by repeat (first | (with_reducible first | exact HK.out | apply Kept.alloc | apply Kept.drewN | apply Kept.drew) | exact HK.out)) hkp (fun k_ hs_ => (fun e_ => (HO_0.out.1 k_ e_.symm)) hs_)); have n2_ := Aside0.mk (hb); clear HO_0; clear HK; clear HB; have HO_0 := n0_; have HK := n1_; have HB := n2_; clear n0_ n1_ n2_; (try clear hb); (try clear hkp); (try clear hy0)))
  go_roundg k1
  case measure => have := HK1.out; omega
  case rel => exact ⟨(t201), (x8_1), (wrap64 (x8_1 + 20)), (by first | rfl | (simp; done) | (simp [*]; done) | (simp [ne_nil_bytes]; done) | (simp [eq_nil_bytes]; done)), (by first | rfl | (simp; done) | (simp [*]; done) | (simp [ne_nil_bytes]; done) | (simp [eq_nil_bytes]; done)), H', ⟨by have := HK1.out; omega⟩, ⟨by exact rL HO_0.out⟩, ⟨by repeat (first | (with_reducible first | exact HK.out | apply Kept.alloc | apply Kept.drewN | apply Kept.drew) | exact HK.out)⟩, ⟨hL HB.out⟩⟩
 rw [if_neg c4] at H
 have c4b0 : decide (x8_1 ≤ a1) = false := decide_eq_false c4
 clear c4
 replace H := Option.bind_eq_some_iff.mp H
 obtain ⟨t202, A80, H⟩ := H
 replace H : (slices_stableCmpFunc_api_Change_at_run_byKey.l1 k1 t202 a1 20) = some r := H
 have A8 := Aside0.mk A80
 clear A80
 have H' := Aside0.mk H
 clear H
 obtain ⟨Ao9, co9, eo9⟩ := Kd.R_slice HO_0.out
 subst eo9
 go_wp2_with (first | ((with_reducible refine gate_callee (f := 61) rfl ?_); refine goesL_ (some 27) rfl rfl Try.func61 (by kernel_rfl) rfl #[.slice Ao9 x0_1.length co9, .int .i64 x7_1, .int .i64 a1, .func (.func 47) #[] #[]] rfl (by (try simp only [List.map_toArray, List.map_cons, List.map_nil]); first | done | rfl | (simp only [List.length_drop, List.length_take]; rfl)) ?_; (with_reducible refine (slices_insertionSortCmpFunc_api_Change_at_run_byKey.calls k1 (fun k_ => some k_ = (.slice Ao9 x0_1.length co9 : Value).ownBlock) (.slice Ao9 x0_1.length co9) x0_1 x7_1 a1  t202 w0 _ ?side1 ?side2 A8.out).mono ?_); (case side1 => repeat (first | (with_reducible first | exact HB.out | apply below_alloc | apply pw_below_drewN | apply below_drew1) | exact HB.out)); (case side2 => exact Kd.R_tight rfl HO_0.out); rintro e w10 ⟨rfl, hy0, hb, hkp⟩; refine ⟨_, rfl, ?_⟩; have n0_ := Aside0.mk (Kd.R_reok rfl hy0 (fun k_ e_ => HO_0.out.1 k_ e_)); have n1_ := Aside0.mk (Kept.then_ (S := (fun k_ => P0_ k_)) (by repeat (first | (with_reducible first | exact HK.out | apply Kept.alloc | apply Kept.drewN | apply Kept.drew) | exact HK.out)) hkp (fun k_ hs_ => (fun e_ => (HO_0.out.1 k_ e_.symm)) hs_)); have n2_ := Aside0.mk (hb); clear HO_0; clear HK; clear HB; have HO_0 := n0_; have HK := n1_; have HB := n2_; clear n0_ n1_ n2_; (try clear hb); (try clear hkp); (try clear hy0)))
 (try simp only [Act.put, sT, sS, sZ])
 go_loopg [6] k1 (fun kq v6 w' => ∃ (x0_2 : List (S37)) (x6_2 : Int), v6 = .int .i64 x6_2 ∧ Aside0 (slices_stableCmpFunc_api_Change_at_run_byKey.l1 kq x0_2 a1 x6_2 = some r) ∧ Aside0 (kq ≤ k1) ∧ Aside0 (Kd.R k37 37 w' w0.heap.size (fun k_ => (P0_ k_ ∨ w.heap.size ≤ k_)) (.slice Ao9 x0_1.length co9) x0_2) ∧ Aside0 (Kept w w' (fun k_ => P0_ k_)) ∧ Aside0 (Below w0.heap.size w0 w'))
 case atStart => exact ⟨(t202), (20), (by first | rfl | (simp; done) | (simp [*]; done) | (simp [ne_nil_bytes]; done) | (simp [eq_nil_bytes]; done)), H', ⟨Nat.le_refl _⟩, ⟨by exact rL HO_0.out⟩, ⟨by repeat (first | (with_reducible first | exact HK.out | apply Kept.alloc | apply Kept.drewN | apply Kept.drew) | exact HK.out)⟩, ⟨hL HB.out⟩⟩
 clear H'
 try clear c1
 try clear p2
 try clear c4
 try clear c4b0
 try clear c4b0z
 try clear p6
 try clear c10
 try clear p2
 obtain ⟨x0_2, x6_2, rfl, HA, HK2, HO_0, HK, HB⟩ := hrel
 have hl0_2 := (Kd.R_reads' HO_0.out).1
 rw [hl0_2] at HO_0
 (try simp only [hl0_2])
 rcases gk with _ | k2
 ·exact absurd HA.out (by simp [slices_stableCmpFunc_api_Change_at_run_byKey.l1])
 have H := HA.out
 clear HA
 simp only [slices_stableCmpFunc_api_Change_at_run_byKey.l1] at H
 by_cases c11 : x6_2 < a1
 rotate_left
 ·rw [if_neg c11] at H
  have c11b0 : decide (x6_2 < a1) = false := decide_eq_false c11
  clear c11
  obtain rfl := Option.some.inj H
  simp only [Option.some.injEq, Prod.mk.injEq] at H
  obtain ⟨rfl⟩ := H
  go_wp2
  first | go_end0 | ((try simp only [Exit.inBlock, Exit.then]); refine bodyPost_ret (results_none rfl _ _ _) rfl ?_)
  exact ⟨by first | rfl | (simp [errW_none, errW_some] <;> rfl) | (simp [*, errW_none, errW_some] <;> rfl), (by first | exact (rL HO_0.out) | (simp only [hl0_2]; exact (rL HO_0.out))), hL HB.out, by repeat (first | (with_reducible first | exact HK.out | apply Kept.alloc | apply Kept.drewN | apply Kept.drew) | exact HK.out)⟩
 rw [if_pos c11] at H
 have c11b0 : decide (x6_2 < a1) = true := decide_eq_true c11
 clear c11
 have H' := Aside0.mk H
 clear H
 go_wp2
 (try simp only [Act.put, sT, sS, sZ])
 go_loopg [7, 8] k2 (fun kq v7 v8 w' => ∃ (x0_3 : List (S37)) (x7_3 : Int) (x8_3 : Int), v7 = .int .i64 x7_3 ∧ v8 = .int .i64 x8_3 ∧ Aside0 (slices_stableCmpFunc_api_Change_at_run_byKey.l2 kq x0_3 a1 x6_2 x7_3 x8_3 = some r) ∧ Aside0 (kq ≤ k2) ∧ Aside0 (Kd.R k37 37 w' w0.heap.size (fun k_ => (P0_ k_ ∨ w.heap.size ≤ k_)) (.slice Ao9 x0_2.length co9) x0_3) ∧ Aside0 (Kept w w' (fun k_ => P0_ k_)) ∧ Aside0 (Below w0.heap.size w0 w'))
 case atStart => exact ⟨(x0_2), (0), (wrap64 (2 * x6_2)), (by first | rfl | (simp; done) | (simp [*]; done) | (simp [ne_nil_bytes]; done) | (simp [eq_nil_bytes]; done)), (by first | rfl | (simp; done) | (simp [*]; done) | (simp [ne_nil_bytes]; done) | (simp [eq_nil_bytes]; done)), H', ⟨Nat.le_refl _⟩, ⟨by (try simp only [hl0_2]); exact rL HO_0.out⟩, ⟨by repeat (first | (with_reducible first | exact HK.out | apply Kept.alloc | apply Kept.drewN | apply Kept.drew) | exact HK.out)⟩, ⟨hL HB.out⟩⟩
 clear H'
 try clear c1
 try clear p2
 try clear c4
 try clear c4b0
 try clear c4b0z
 try clear p6
 try clear c10
 try clear c11
 try clear c11b0
 try clear c11b0z
 try clear p2
 try clear p6
 obtain ⟨x0_3, x7_3, x8_3, rfl, rfl, HA, HK3, HO_0, HK, HB⟩ := hrel
 have hl0_3 := (Kd.R_reads' HO_0.out).1
 rw [hl0_3] at HO_0
 (try simp only [hl0_3])
 rcases gk with _ | k3
 ·exact absurd HA.out (by simp [slices_stableCmpFunc_api_Change_at_run_byKey.l2])
 have H := HA.out
 clear HA
 simp only [slices_stableCmpFunc_api_Change_at_run_byKey.l2] at H
 by_cases c12 : x8_3 ≤ a1
 ·rw [if_pos c12] at H
  have c12b0 : decide (x8_3 ≤ a1) = true := decide_eq_true c12
  clear c12
  replace H := Option.bind_eq_some_iff.mp H
  obtain ⟨t203, A130, H⟩ := H
  replace H : (slices_stableCmpFunc_api_Change_at_run_byKey.l2 k3 t203 a1 x6_2 x8_3 (wrap64 (x8_3 + (wrap64 (2 * x6_2))))) = some r := H
  have A13 := Aside0.mk A130
  clear A130
  have H' := Aside0.mk H
  clear H
  go_wp2_with (first | ((with_reducible refine gate_callee (f := 62) rfl ?_); refine goesL_ (some 43) rfl rfl Try.func62 (by kernel_rfl) rfl #[.slice Ao9 x0_3.length co9, .int .i64 x7_3, .int .i64 (wrap64 (x7_3 + x6_2)), .int .i64 x8_3, .func (.func 47) #[] #[]] rfl (by (try simp only [List.map_toArray, List.map_cons, List.map_nil]); first | done | rfl | (simp only [List.length_drop, List.length_take]; rfl)) ?_; (with_reducible refine (slices_symMergeCmpFunc_api_Change_at_run_byKey.calls k3 (fun k_ => some k_ = (.slice Ao9 x0_3.length co9 : Value).ownBlock) (.slice Ao9 x0_3.length co9) x0_3 x7_3 (wrap64 (x7_3 + x6_2)) x8_3  t203 w0 _ ?side1 ?side2 A13.out).mono ?_); (case side1 => repeat (first | (with_reducible first | exact HB.out | apply below_alloc | apply pw_below_drewN | apply below_drew1) | exact HB.out)); (case side2 => exact Kd.R_tight rfl HO_0.out); rintro e w14 ⟨rfl, hy0, hb, hkp⟩; refine ⟨_, rfl, ?_⟩; have n0_ := Aside0.mk (Kd.R_reok rfl hy0 (fun k_ e_ => HO_0.out.1 k_ e_)); have n1_ := Aside0.mk (Kept.then_ (S := (fun k_ => P0_ k_)) (by repeat (first | (with_reducible first | exact HK.out | apply Kept.alloc | apply Kept.drewN | apply Kept.drew) | exact HK.out)) hkp (fun k_ hs_ => (fun e_ => (HO_0.out.1 k_ e_.symm)) hs_)); have n2_ := Aside0.mk (hb); clear HO_0; clear HK; clear HB; have HO_0 := n0_; have HK := n1_; have HB := n2_; clear n0_ n1_ n2_; (try clear hb); (try clear hkp); (try clear hy0)))
  (try simp only [← hl0_3])
  go_roundg k3
  case measure => have := HK1.out; have := HK2.out; have := HK3.out; omega
  case rel => exact ⟨(t203), (x8_3), (wrap64 (x8_3 + (wrap64 (2 * x6_2)))), (by first | rfl | (simp; done) | (simp [*]; done) | (simp [ne_nil_bytes]; done) | (simp [eq_nil_bytes]; done)), (by first | rfl | (simp; done) | (simp [*]; done) | (simp [ne_nil_bytes]; done) | (simp [eq_nil_bytes]; done)), H', ⟨by have := HK1.out; have := HK2.out; have := HK3.out; omega⟩, ⟨by (try simp only [hl0_2]); (try simp only [hl0_3]); exact rL HO_0.out⟩, ⟨by repeat (first | (with_reducible first | exact HK.out | apply Kept.alloc | apply Kept.drewN | apply Kept.drew) | exact HK.out)⟩, ⟨hL HB.out⟩⟩
 rw [if_neg c12] at H
 have c12b0 : decide (x8_3 ≤ a1) = false := decide_eq_false c12
 clear c12
 by_cases c15 : (wrap64 (x7_3 + x6_2)) < a1
 rotate_left
 ·rw [if_neg c15] at H
  have c15b0 : decide ((wrap64 (x7_3 + x6_2)) < a1) = false := decide_eq_false c15
  clear c15
  have H' := Aside0.mk H
  clear H
  go_wp2
  (try simp only [← hl0_2, ← hl0_3])
  go_roundg k3
  case measure => have := HK1.out; have := HK2.out; have := HK3.out; omega
  case rel => exact ⟨(x0_3), (wrap64 (x6_2 * 2)), (by first | rfl | (simp; done) | (simp [*]; done) | (simp [ne_nil_bytes]; done) | (simp [eq_nil_bytes]; done)), H', ⟨by have := HK1.out; have := HK2.out; have := HK3.out; omega⟩, ⟨by (try simp only [hl0_2]); (try simp only [hl0_3]); exact rL HO_0.out⟩, ⟨by repeat (first | (with_reducible first | exact HK.out | apply Kept.alloc | apply Kept.drewN | apply Kept.drew) | exact HK.out)⟩, ⟨hL HB.out⟩⟩
 rw [if_pos c15] at H
 have c15b0 : decide ((wrap64 (x7_3 + x6_2)) < a1) = true := decide_eq_true c15
 clear c15
 replace H := Option.bind_eq_some_iff.mp H
 obtain ⟨t204, A160, H⟩ := H
 replace H : (slices_stableCmpFunc_api_Change_at_run_byKey.l1 k3 t204 a1 (wrap64 (x6_2 * 2))) = some r := H
 have A16 := Aside0.mk A160
 clear A160
 have H' := Aside0.mk H
 clear H
 go_wp2_with (first | ((with_reducible refine gate_callee (f := 62) rfl ?_); refine goesL_ (some 60) rfl rfl Try.func62 (by kernel_rfl) rfl #[.slice Ao9 x0_3.length co9, .int .i64 x7_3, .int .i64 (wrap64 (x7_3 + x6_2)), .int .i64 a1, .func (.func 47) #[] #[]] rfl (by (try simp only [List.map_toArray, List.map_cons, List.map_nil]); first | done | rfl | (simp only [List.length_drop, List.length_take]; rfl)) ?_; (with_reducible refine (slices_symMergeCmpFunc_api_Change_at_run_byKey.calls k3 (fun k_ => some k_ = (.slice Ao9 x0_3.length co9 : Value).ownBlock) (.slice Ao9 x0_3.length co9) x0_3 x7_3 (wrap64 (x7_3 + x6_2)) a1  t204 w0 _ ?side1 ?side2 A16.out).mono ?_); (case side1 => repeat (first | (with_reducible first | exact HB.out | apply below_alloc | apply pw_below_drewN | apply below_drew1) | exact HB.out)); (case side2 => exact Kd.R_tight rfl HO_0.out); rintro e w17 ⟨rfl, hy0, hb, hkp⟩; refine ⟨_, rfl, ?_⟩; have n0_ := Aside0.mk (Kd.R_reok rfl hy0 (fun k_ e_ => HO_0.out.1 k_ e_)); have n1_ := Aside0.mk (Kept.then_ (S := (fun k_ => P0_ k_)) (by repeat (first | (with_reducible first | exact HK.out | apply Kept.alloc | apply Kept.drewN | apply Kept.drew) | exact HK.out)) hkp (fun k_ hs_ => (fun e_ => (HO_0.out.1 k_ e_.symm)) hs_)); have n2_ := Aside0.mk (hb); clear HO_0; clear HK; clear HB; have HO_0 := n0_; have HK := n1_; have HB := n2_; clear n0_ n1_ n2_; (try clear hb); (try clear hkp); (try clear hy0)))
 (try simp only [← hl0_2, ← hl0_3])
 go_roundg k3
 case measure => have := HK1.out; have := HK2.out; have := HK3.out; omega
 case rel => exact ⟨(t204), (wrap64 (x6_2 * 2)), (by first | rfl | (simp; done) | (simp [*]; done) | (simp [ne_nil_bytes]; done) | (simp [eq_nil_bytes]; done)), H', ⟨by have := HK1.out; have := HK2.out; have := HK3.out; omega⟩, ⟨by (try simp only [hl0_2]); (try simp only [hl0_3]); exact rL HO_0.out⟩, ⟨by repeat (first | (with_reducible first | exact HK.out | apply Kept.alloc | apply Kept.drewN | apply Kept.drew) | exact HK.out)⟩, ⟨hL HB.out⟩⟩

/-! ### slices_SortStableFunc_api_Change_api_Change_at_run_byKey: function 46 -/
def slices_SortStableFunc_api_Change_api_Change_at_run_byKey.f (k : Nat) (l0 : List (S37))  : Option ((List (S37))) := (slices_stableCmpFunc_api_Change_at_run_byKey.f k l0 (l0.length : Int)).bind fun t205 => (some t205)
theorem slices_SortStableFunc_api_Change_api_Change_at_run_byKey.mono : ∀ a0 k, LeO (slices_SortStableFunc_api_Change_api_Change_at_run_byKey.f k a0) (slices_SortStableFunc_api_Change_api_Change_at_run_byKey.f (k + 1) a0) := by
 intro a0 k
 unfold slices_SortStableFunc_api_Change_api_Change_at_run_byKey.f
 repeat' first
   | (with_reducible exact slices_stableCmpFunc_api_Change_at_run_byKey.mono _ _ _)
   | (with_reducible exact LeO.refl _)
   | (with_reducible exact LeO.none _)
   | (with_reducible refine LeO.ite ?_ ?_)
   | (with_reducible refine LeO.bind ?_ (fun _ => ?_))
   | exact slices_stableCmpFunc_api_Change_at_run_byKey.mono _ _ _
   | exact LeO.none _
   | refine LeO.ite ?_ ?_
   | refine LeO.bind ?_ (fun _ => ?_)
set_option maxHeartbeats 8000000 in
set_option maxRecDepth 100000 in
theorem slices_SortStableFunc_api_Change_api_Change_at_run_byKey.calls (k : Nat) (P0_ : Nat → Prop) (u9000_ : Value) (l0 : List (S37))  (r : List (S37)) (w0 w : World) (hB : Below w0.heap.size w0 w) (ho0 : Kd.R k37 37 w w0.heap.size P0_ u9000_ l0) (h : slices_SortStableFunc_api_Change_api_Change_at_run_byKey.f k l0 = some r) :
  Calls Try.prog 46 #[u9000_, .func (.func 47) #[] #[]] w fun e w' => e = .returned (.tuple #[]) ∧ Kd.R k37 37 w' w0.heap.size (fun k_ => (P0_ k_ ∨ w.heap.size ≤ k_)) u9000_ r ∧ Below w0.heap.size w0 w' ∧ Kept w w' (fun k_ => P0_ k_) := by
 have HO0 := Aside0.mk (show Kd.R k37 37 w w0.heap.size (fun k_ => (P0_ k_ ∨ w.heap.size ≤ k_)) u9000_ l0 from Kd.R_mono ho0 (fun k_ hk => (.inl hk)))
 have HK := Aside0.mk (Kept.refl w (fun k_ => P0_ k_))
 have HW0 := Aside0.mk hB.size
 have HB := Aside0.mk hB
 clear hB
 have H : ((slices_stableCmpFunc_api_Change_at_run_byKey.f k l0 (l0.length : Int)).bind fun t205 => (some t205)) = some r := h
 clear h
 replace H := Option.bind_eq_some_iff.mp H
 obtain ⟨t205, A30, H⟩ := H
 replace H : (some t205) = some r := H
 have A3 := Aside0.mk A30
 clear A30
 obtain rfl := Option.some.inj H
 simp only [Option.some.injEq, Prod.mk.injEq] at H
 obtain ⟨rfl⟩ := H
 obtain ⟨Ao4, co4, eo4⟩ := Kd.R_slice HO0.out
 subst eo4
 go_enter Try.func46, Try.ntmps46
 go_wp2_with (first | ((with_reducible refine gate_callee (f := 58) rfl ?_); refine goesL_ (some 8) rfl rfl Try.func58 (by kernel_rfl) rfl #[.slice Ao4 l0.length co4, .int .i64 (l0.length : Int), .func (.func 47) #[] #[]] rfl (by (try simp only [List.map_toArray, List.map_cons, List.map_nil]); first | done | rfl | (simp only [List.length_drop, List.length_take]; rfl)) ?_; (with_reducible refine (slices_stableCmpFunc_api_Change_at_run_byKey.calls k (fun k_ => some k_ = (.slice Ao4 l0.length co4 : Value).ownBlock) (.slice Ao4 l0.length co4) l0 (l0.length : Int)  t205 w0 _ ?side1 ?side2 A3.out).mono ?_); (case side1 => repeat (first | (with_reducible first | exact HB.out | apply below_alloc | apply pw_below_drewN | apply below_drew1) | exact HB.out)); (case side2 => exact Kd.R_tight rfl HO0.out); rintro e w5 ⟨rfl, hy0, hb, hkp⟩; refine ⟨_, rfl, ?_⟩; have n0_ := Aside0.mk (Kd.R_reok rfl hy0 (fun k_ e_ => HO0.out.1 k_ e_)); have n1_ := Aside0.mk (Kept.then_ (S := (fun k_ => P0_ k_)) (by repeat (first | (with_reducible first | exact HK.out | apply Kept.alloc | apply Kept.drewN | apply Kept.drew) | exact HK.out)) hkp (fun k_ hs_ => (fun e_ => (HO0.out.1 k_ e_.symm)) hs_)); have n2_ := Aside0.mk (hb); clear HO0; clear HK; clear HB; have HO0 := n0_; have HK := n1_; have HB := n2_; clear n0_ n1_ n2_; (try clear hb); (try clear hkp); (try clear hy0)))
 first | go_end0 | ((try simp only [Exit.inBlock, Exit.then]); refine bodyPost_ret (results_none rfl _ _ _) rfl ?_)
 exact ⟨by first | rfl | (simp [errW_none, errW_some] <;> rfl) | (simp [*, errW_none, errW_some] <;> rfl), by exact rL HO0.out, hL HB.out, by repeat (first | (with_reducible first | exact HK.out | apply Kept.alloc | apply Kept.drewN | apply Kept.drew) | exact HK.out)⟩

/-! ### run_Make_1: function 49 -/
def run_Make_1.f (a0_0 : ByteArray) (a0_1 : ByteArray) (a0_2 : Bool) (a1_0 : ByteArray) (a1_1 : ByteArray) (a1_2 : Bool) : Option (Bool) := some (a0_0.toList == a1_0.toList)
set_option maxHeartbeats 8000000 in
set_option maxRecDepth 100000 in
theorem run_Make_1.calls (a0_0 : ByteArray) (a0_1 : ByteArray) (a0_2 : Bool) (a1_0 : ByteArray) (a1_1 : ByteArray) (a1_2 : Bool) (r : Bool) (w : World) (h : run_Make_1.f a0_0 a0_1 a0_2 a1_0 a1_1 a1_2 = some r) :
  Calls Try.prog 49 #[.agg #[.string a0_0, .string a0_1, .bool a0_2], .agg #[.string a1_0, .string a1_1, .bool a1_2]] w fun e w' => e = .returned (.bool r) ∧ Below w.heap.size w w' := by
 have hu37 := Try.underlying37
 have HB := Aside0.mk (Below.refl w.heap.size w)
 have H : (some (a0_0.toList == a1_0.toList)) = some r := h
 clear h
 obtain rfl := Option.some.inj H
 simp only [Option.some.injEq, Prod.mk.injEq] at H
 obtain ⟨rfl⟩ := H
 go_enter Try.func49, Try.ntmps49
 go_wp2_with (first | ((with_reducible refine gate_dst (N := 2) rfl ?_); refine box_event ?hg (N := 2) ?hd (cs := #[.string a0_0, .string a0_1, .bool a0_2]) (t := 37) ?hr ?_; (case hd => rfl); (case hg => rfl); (case hr => first | (go_simp; done) | (go_simp; rfl)); intro gb206 hg w3 hbox hb; have n0_ := Aside0.mk (below_step (hL HB.out) hb); have n1_ := Aside0.mk (hbox); have n2_ := Above.mk ((by rw [hg]; exact (below_size (hL HB.out)) : w.heap.size ≤ gb206)); have n3_ := Above.mk ((by rw [hg]; exact (below_size (hL HB.out)) : w.heap.size ≤ gb206)); clear HB; have HB := n0_; have BK206 := n1_; have GW206 := n2_; have GE206 := n3_; clear n0_ n1_ n2_ n3_; clear hb hbox hg) | ((with_reducible refine gate_dst (N := 3) rfl ?_); refine box_event ?hg (N := 3) ?hd (cs := #[.string a1_0, .string a1_1, .bool a1_2]) (t := 37) ?hr ?_; (case hd => rfl); (case hg => rfl); (case hr => first | (go_simp; done) | (go_simp; rfl)); intro gb207 hg w4 hbox hb; have n0_ := Aside0.mk (blk_below (bL BK206.out) hb); have n1_ := Aside0.mk (below_step (hL HB.out) hb); have n2_ := Aside0.mk (hbox); have n3_ := Above.mk ((by rw [hg]; exact (below_size (hL HB.out)) : w.heap.size ≤ gb207)); have n4_ := Above.mk ((by rw [hg]; exact (below_size (hL HB.out)) : w.heap.size ≤ gb207)); have n5_ := Aside0.mk ((by rw [hg]; exact Nat.ne_of_lt (blk_lt (g := gb206) (o := .cells #[.string a0_0, .string a0_1, .bool a0_2] 37 (0, 0)) (bL BK206.out)) : gb206 ≠ gb207)); have n6_ := Aside0.mk ((by rw [hg]; exact Nat.ne_of_gt (blk_lt (g := gb206) (o := .cells #[.string a0_0, .string a0_1, .bool a0_2] 37 (0, 0)) (bL BK206.out)) : gb207 ≠ gb206)); clear BK206; clear HB; have BK206 := n0_; have HB := n1_; have BK207 := n2_; have GW207 := n3_; have GE207 := n4_; have NB206_207 := n5_; have NB207_206 := n6_; clear n0_ n1_ n2_ n3_ n4_ n5_ n6_; clear hb hbox hg; have hnb5 := NB206_207.out; have hnc5 := NB207_206.out; have hcz6_0 : w4.cell? ⟨gb206, 0, none⟩ = some (.string a0_0) := (blk_cell BK206.out 0).trans rfl; have hcz6_1 : w4.cell? ⟨gb206, 1, none⟩ = some (.string a0_1) := (blk_cell BK206.out 1).trans rfl; have hcz6_2 : w4.cell? ⟨gb206, 2, none⟩ = some (.bool a0_2) := (blk_cell BK206.out 2).trans rfl; have hfz6_0 := blk_frozen BK206.out 0; have hfz6_1 := blk_frozen BK206.out 1; have hfz6_2 := blk_frozen BK206.out 2; have hcz7_0 : w4.cell? ⟨gb207, 0, none⟩ = some (.string a1_0) := (blk_cell BK207.out 0).trans rfl; have hcz7_1 : w4.cell? ⟨gb207, 1, none⟩ = some (.string a1_1) := (blk_cell BK207.out 1).trans rfl; have hcz7_2 : w4.cell? ⟨gb207, 2, none⟩ = some (.bool a1_2) := (blk_cell BK207.out 2).trans rfl; have hfz7_0 := blk_frozen BK207.out 0; have hfz7_1 := blk_frozen BK207.out 1; have hfz7_2 := blk_frozen BK207.out 2))
 go_ret
 exact ⟨by first | rfl | (simp [errW_none, errW_some] <;> rfl) | (simp [*, errW_none, errW_some] <;> rfl), hL HB.out⟩

/-! ### run_Make_1_v18: what a variable holds -/
abbrev run_Make_1_v18.f := @run_Make_1.f
theorem run_Make_1_v18.calls : type_of% @run_Make_1.calls := @run_Make_1.calls

/-! ### run_Make_1_v38: what a variable holds -/
abbrev run_Make_1_v38.f := @run_Make_1.f
theorem run_Make_1_v38.calls : type_of% @run_Make_1.calls := @run_Make_1.calls

-- NOT PRINTED: function 48 (slices_CompactFunc_api_Change_api_Change_at_run_Make_1)

end Go.Proofs.Ytkkfkccfnfjbiaa.PGr
