-- Written by a program of this session for this claim (mp.py, over the kit's print); Lean checks it.
import Derived.Test.YtdaikljbljcagaaPAllx0
import Derived.Test.YtdaikljbljcagaaPAllx6
namespace Go.Proofs.Ytdaikljbljcagaa.PAll
open Go.RowKit Go.Proofs.YtdaikljbljcagaaW.PrintWords Go.Proofs.YtdaikljbljcagaaW.PrintLast Go.Proofs.YtdaikljbljcagaaW.PrintMore Go.Proofs.Ytdaikljbljcagaa.Fv Go.Proofs.Ytdaikljbljcagaa.Hl
attribute [local go_sem] max2_int min2_int max_two min_two max_three min_three max_four min_four str_gtr str_leq str_geq cell_set2   -- for this text's walks alone
set_option linter.unusedVariables false
set_option linter.unusedSimpArgs false


/-! ### slices_rotateCmpFunc_api_Intent_at_outbox_Latest_1: function 77 -/
def slices_rotateCmpFunc_api_Intent_at_outbox_Latest_1.l0 : Nat → List (S29) → Int → Int → Int → Option ((List (S29)))
 | 0, _, _, _, _ => none
 | k + 1, x0, x2, x10, x11 => if x10 = x11 then ((slices_swapRangeCmpFunc_api_Intent_at_outbox_Latest_1.f k x0 (wrap64 (x2 - x10)) x2 x10).bind fun t140 => (some t140)) else (if x10 > x11 then ((slices_swapRangeCmpFunc_api_Intent_at_outbox_Latest_1.f k x0 (wrap64 (x2 - x10)) x2 x11).bind fun t141 => (slices_rotateCmpFunc_api_Intent_at_outbox_Latest_1.l0 k t141 x2 (wrap64 (x10 - x11)) x11)) else ((slices_swapRangeCmpFunc_api_Intent_at_outbox_Latest_1.f k x0 (wrap64 (x2 - x10)) (wrap64 ((wrap64 (x2 + x11)) - x10)) x10).bind fun t142 => (slices_rotateCmpFunc_api_Intent_at_outbox_Latest_1.l0 k t142 x2 x10 (wrap64 (x11 - x10)))))
def slices_rotateCmpFunc_api_Intent_at_outbox_Latest_1.f (k : Nat) (l0 : List (S29)) (a1 : Int) (a2 : Int) (a3 : Int)  : Option ((List (S29))) := slices_rotateCmpFunc_api_Intent_at_outbox_Latest_1.l0 k l0 a2 (wrap64 (a2 - a1)) (wrap64 (a3 - a2))
theorem slices_rotateCmpFunc_api_Intent_at_outbox_Latest_1.mono_l : ∀ k, (∀ y0 y1 y2 y3, LeO (slices_rotateCmpFunc_api_Intent_at_outbox_Latest_1.l0 k y0 y1 y2 y3) (slices_rotateCmpFunc_api_Intent_at_outbox_Latest_1.l0 (k + 1) y0 y1 y2 y3))
 | 0 => fun _ _ _ _ r h => by simp [slices_rotateCmpFunc_api_Intent_at_outbox_Latest_1.l0] at h
 | k + 1 => by
  have ih0 := slices_rotateCmpFunc_api_Intent_at_outbox_Latest_1.mono_l k
  ·intro y0 y1 y2 y3
   unfold slices_rotateCmpFunc_api_Intent_at_outbox_Latest_1.l0
   repeat' first
   | (with_reducible exact ih0 _ _ _ _)
   | (with_reducible exact slices_swapRangeCmpFunc_api_Intent_at_outbox_Latest_1.mono _ _ _ _ _)
   | (with_reducible exact LeO.refl _)
   | (with_reducible exact LeO.none _)
   | (with_reducible refine LeO.ite ?_ ?_)
   | (with_reducible refine LeO.bind ?_ (fun _ => ?_))
   | exact ih0 _ _ _ _
   | exact slices_swapRangeCmpFunc_api_Intent_at_outbox_Latest_1.mono _ _ _ _ _
   | exact LeO.none _
   | refine LeO.ite ?_ ?_
   | refine LeO.bind ?_ (fun _ => ?_)
theorem slices_rotateCmpFunc_api_Intent_at_outbox_Latest_1.mono : ∀ a0 a1 a2 a3 k, LeO (slices_rotateCmpFunc_api_Intent_at_outbox_Latest_1.f k a0 a1 a2 a3) (slices_rotateCmpFunc_api_Intent_at_outbox_Latest_1.f (k + 1) a0 a1 a2 a3) := by
 intro a0 a1 a2 a3 k
 have ih0 := slices_rotateCmpFunc_api_Intent_at_outbox_Latest_1.mono_l k
 unfold slices_rotateCmpFunc_api_Intent_at_outbox_Latest_1.f
 repeat' first
   | (with_reducible exact ih0 _ _ _ _)
   | (with_reducible exact slices_swapRangeCmpFunc_api_Intent_at_outbox_Latest_1.mono _ _ _ _ _)
   | (with_reducible exact LeO.refl _)
   | (with_reducible exact LeO.none _)
   | (with_reducible refine LeO.ite ?_ ?_)
   | (with_reducible refine LeO.bind ?_ (fun _ => ?_))
   | exact ih0 _ _ _ _
   | exact slices_swapRangeCmpFunc_api_Intent_at_outbox_Latest_1.mono _ _ _ _ _
   | exact LeO.none _
   | refine LeO.ite ?_ ?_
   | refine LeO.bind ?_ (fun _ => ?_)
set_option maxHeartbeats 8000000 in
set_option maxRecDepth 100000 in
theorem slices_rotateCmpFunc_api_Intent_at_outbox_Latest_1.calls (k : Nat) (P0_ : Nat → Prop) (u9000_ : Value) (l0 : List (S29)) (a1 : Int) (a2 : Int) (a3 : Int)  (r : List (S29)) (w0 w : World) (hB : Below w0.heap.size w0 w) (ho0 : Kd.R k29 29 w w0.heap.size P0_ u9000_ l0) (h : slices_rotateCmpFunc_api_Intent_at_outbox_Latest_1.f k l0 a1 a2 a3 = some r) :
  Calls Try.prog 77 #[u9000_, .int .i64 a1, .int .i64 a2, .int .i64 a3, .func (.func 30) #[] #[]] w fun e w' => e = .returned (.tuple #[]) ∧ Kd.R k29 29 w' w0.heap.size (fun k_ => (P0_ k_ ∨ w.heap.size ≤ k_)) u9000_ r ∧ Below w0.heap.size w0 w' ∧ Kept w w' (fun k_ => P0_ k_) := by
 have HO0 := Aside0.mk (show Kd.R k29 29 w w0.heap.size (fun k_ => (P0_ k_ ∨ w.heap.size ≤ k_)) u9000_ l0 from Kd.R_mono ho0 (fun k_ hk => (.inl hk)))
 have HK := Aside0.mk (Kept.refl w (fun k_ => P0_ k_))
 have HW0 := Aside0.mk hB.size
 have HB := Aside0.mk hB
 clear hB
 have H : (slices_rotateCmpFunc_api_Intent_at_outbox_Latest_1.l0 k l0 a2 (wrap64 (a2 - a1)) (wrap64 (a3 - a2))) = some r := h
 clear h
 have H' := Aside0.mk H
 clear H
 go_enter Try.func77, Try.ntmps77
 go_wp2
 go_loopg [10, 11] k (fun kq v10 v11 w' => ∃ (x0_1 : List (S29)) (x10_1 : Int) (x11_1 : Int), v10 = .int .i64 x10_1 ∧ v11 = .int .i64 x11_1 ∧ Aside0 (slices_rotateCmpFunc_api_Intent_at_outbox_Latest_1.l0 kq x0_1 a2 x10_1 x11_1 = some r) ∧ Aside0 (kq ≤ k) ∧ Aside0 (Kd.R k29 29 w' w0.heap.size (fun k_ => (P0_ k_ ∨ w.heap.size ≤ k_)) u9000_ x0_1) ∧ Aside0 (Kept w w' (fun k_ => P0_ k_)) ∧ Aside0 (Below w0.heap.size w0 w'))
 case atStart => exact ⟨(l0), (wrap64 (a2 - a1)), (wrap64 (a3 - a2)), (by first | rfl | (simp; done) | (simp [*]; done) | (simp [ne_nil_bytes]; done) | (simp [eq_nil_bytes]; done)), (by first | rfl | (simp; done) | (simp [*]; done) | (simp [ne_nil_bytes]; done) | (simp [eq_nil_bytes]; done)), H', ⟨Nat.le_refl _⟩, ⟨by exact rL HO0.out⟩, ⟨by repeat (first | (with_reducible first | exact HK.out | apply Kept.alloc | apply Kept.drewN | apply Kept.drew) | exact HK.out)⟩, ⟨hL HB.out⟩⟩
 clear H'
 try clear c1
 try clear p2
 obtain ⟨x0_1, x10_1, x11_1, rfl, rfl, HA, HK1, HO_0, HK, HB⟩ := hrel
 rcases gk with _ | k1
 ·exact absurd HA.out (by simp [slices_rotateCmpFunc_api_Intent_at_outbox_Latest_1.l0])
 have H := HA.out
 clear HA
 simp only [slices_rotateCmpFunc_api_Intent_at_outbox_Latest_1.l0] at H
 by_cases c6 : x10_1 = x11_1
 ·rw [if_pos c6] at H
  have c6b0 : (x10_1 == x11_1) = true := beq_iff_eq.mpr c6
  have c6b1 : (x10_1 != x11_1) = false := bne_eq_false_iff_eq.mpr c6
  clear c6
  replace H := Option.bind_eq_some_iff.mp H
  obtain ⟨t140, A70, H⟩ := H
  replace H : (some t140) = some r := H
  have A7 := Aside0.mk A70
  clear A70
  obtain rfl := Option.some.inj H
  simp only [Option.some.injEq, Prod.mk.injEq] at H
  obtain ⟨rfl⟩ := H
  obtain ⟨Ao8, co8, eo8⟩ := Kd.R_slice HO_0.out
  subst eo8
  go_wp2_with (first | ((with_reducible refine gate_callee (f := 79) rfl ?_); refine goesL_ (some 57) rfl rfl Try.func79 (by kernel_rfl) rfl #[.slice Ao8 x0_1.length co8, .int .i64 (wrap64 (a2 - x10_1)), .int .i64 a2, .int .i64 x10_1, .func (.func 30) #[] #[]] rfl (by (try simp only [List.map_toArray, List.map_cons, List.map_nil]); first | done | rfl | (simp only [List.length_drop, List.length_take]; rfl)) ?_; (with_reducible refine (slices_swapRangeCmpFunc_api_Intent_at_outbox_Latest_1.calls k1 (fun k_ => some k_ = (.slice Ao8 x0_1.length co8 : Value).ownBlock) (.slice Ao8 x0_1.length co8) x0_1 (wrap64 (a2 - x10_1)) a2 x10_1  t140 w0 _ ?side1 ?side2 A7.out).mono ?_); (case side1 => repeat (first | (with_reducible first | exact HB.out | apply below_alloc | apply pw_below_drewN | apply below_drew1) | exact HB.out)); (case side2 => exact Kd.R_tight rfl HO_0.out); rintro e w9 ⟨rfl, hy0, hb, hkp⟩; refine ⟨_, rfl, ?_⟩; have n0_ := Aside0.mk (Kd.R_reok rfl hy0 (fun k_ e_ => HO_0.out.1 k_ e_)); have n1_ := Aside0.mk (Kept.then_ (S := (fun k_ => P0_ k_)) (by repeat (first | (with_reducible first | exact HK.out | apply Kept.alloc | apply Kept.drewN | apply Kept.drew) | exact HK.out)) hkp (fun k_ hs_ => (fun e_ => (HO_0.out.1 k_ e_.symm)) hs_)); have n2_ := Aside0.mk (hb); clear HO_0; clear HK; clear HB; have HO_0 := n0_; have HK := n1_; have HB := n2_; clear n0_ n1_ n2_; (try clear hb); (try clear hkp); (try clear hy0)))
  first | go_end0 | ((try simp only [Exit.inBlock, Exit.then]); refine bodyPost_ret (results_none rfl _ _ _) rfl ?_)
  exact ⟨by first | rfl | (simp [errW_none, errW_some] <;> rfl) | (simp [*, errW_none, errW_some] <;> rfl), by exact rL HO_0.out, hL HB.out, by repeat (first | (with_reducible first | exact HK.out | apply Kept.alloc | apply Kept.drewN | apply Kept.drew) | exact HK.out)⟩
 rw [if_neg c6] at H
 have c6b0 : (x10_1 == x11_1) = false := beq_eq_false_iff_ne.mpr c6
 have c6b1 : (x10_1 != x11_1) = true := bne_iff_ne.mpr c6
 by_cases c10 : x10_1 > x11_1
 ·rw [if_pos c10] at H
  have c10b0 : decide (x11_1 < x10_1) = true := decide_eq_true c10
  clear c10
  replace H := Option.bind_eq_some_iff.mp H
  obtain ⟨t141, A110, H⟩ := H
  replace H : (slices_rotateCmpFunc_api_Intent_at_outbox_Latest_1.l0 k1 t141 a2 (wrap64 (x10_1 - x11_1)) x11_1) = some r := H
  have A11 := Aside0.mk A110
  clear A110
  have H' := Aside0.mk H
  clear H
  obtain ⟨Ao12, co12, eo12⟩ := Kd.R_slice HO_0.out
  subst eo12
  go_wp2_with (first | ((with_reducible refine gate_callee (f := 79) rfl ?_); refine goesL_ (some 31) rfl rfl Try.func79 (by kernel_rfl) rfl #[.slice Ao12 x0_1.length co12, .int .i64 (wrap64 (a2 - x10_1)), .int .i64 a2, .int .i64 x11_1, .func (.func 30) #[] #[]] rfl (by (try simp only [List.map_toArray, List.map_cons, List.map_nil]); first | done | rfl | (simp only [List.length_drop, List.length_take]; rfl)) ?_; (with_reducible refine (slices_swapRangeCmpFunc_api_Intent_at_outbox_Latest_1.calls k1 (fun k_ => some k_ = (.slice Ao12 x0_1.length co12 : Value).ownBlock) (.slice Ao12 x0_1.length co12) x0_1 (wrap64 (a2 - x10_1)) a2 x11_1  t141 w0 _ ?side1 ?side2 A11.out).mono ?_); (case side1 => repeat (first | (with_reducible first | exact HB.out | apply below_alloc | apply pw_below_drewN | apply below_drew1) | exact HB.out)); (case side2 => exact Kd.R_tight rfl HO_0.out); rintro e w13 ⟨rfl, hy0, hb, hkp⟩; refine ⟨_, rfl, ?_⟩; have n0_ := Aside0.mk (Kd.R_reok rfl hy0 (fun k_ e_ => HO_0.out.1 k_ e_)); have n1_ := Aside0.mk (Kept.then_ (S := (fun k_ => P0_ k_)) (by repeat (first | (with_reducible first | exact HK.out | apply Kept.alloc | apply Kept.drewN | apply Kept.drew) | exact HK.out)) hkp (fun k_ hs_ => (fun e_ => (HO_0.out.1 k_ e_.symm)) hs_)); have n2_ := Aside0.mk (hb); clear HO_0; clear HK; clear HB; have HO_0 := n0_; have HK := n1_; have HB := n2_; clear n0_ n1_ n2_; (try clear hb); (try clear hkp); (try clear hy0)))
  go_roundg k1
  case measure => have := HK1.out; omega
  case rel => exact ⟨(t141), (wrap64 (x10_1 - x11_1)), (x11_1), (by first | rfl | (simp; done) | (simp [*]; done) | (simp [ne_nil_bytes]; done) | (simp [eq_nil_bytes]; done)), (by first | rfl | (simp; done) | (simp [*]; done) | (simp [ne_nil_bytes]; done) | (simp [eq_nil_bytes]; done)), H', ⟨by have := HK1.out; omega⟩, ⟨by exact rL HO_0.out⟩, ⟨by repeat (first | (with_reducible first | exact HK.out | apply Kept.alloc | apply Kept.drewN | apply Kept.drew) | exact HK.out)⟩, ⟨hL HB.out⟩⟩
 rw [if_neg c10] at H
 have c10b0 : decide (x11_1 < x10_1) = false := decide_eq_false c10
 clear c10
 replace H := Option.bind_eq_some_iff.mp H
 obtain ⟨t142, A140, H⟩ := H
 replace H : (slices_rotateCmpFunc_api_Intent_at_outbox_Latest_1.l0 k1 t142 a2 x10_1 (wrap64 (x11_1 - x10_1))) = some r := H
 have A14 := Aside0.mk A140
 clear A140
 have H' := Aside0.mk H
 clear H
 obtain ⟨Ao15, co15, eo15⟩ := Kd.R_slice HO_0.out
 subst eo15
 go_wp2_with (first | ((with_reducible refine gate_callee (f := 79) rfl ?_); refine goesL_ (some 46) rfl rfl Try.func79 (by kernel_rfl) rfl #[.slice Ao15 x0_1.length co15, .int .i64 (wrap64 (a2 - x10_1)), .int .i64 (wrap64 ((wrap64 (a2 + x11_1)) - x10_1)), .int .i64 x10_1, .func (.func 30) #[] #[]] rfl (by (try simp only [List.map_toArray, List.map_cons, List.map_nil]); first | done | rfl | (simp only [List.length_drop, List.length_take]; rfl)) ?_; (with_reducible refine (slices_swapRangeCmpFunc_api_Intent_at_outbox_Latest_1.calls k1 (fun k_ => some k_ = (.slice Ao15 x0_1.length co15 : Value).ownBlock) (.slice Ao15 x0_1.length co15) x0_1 (wrap64 (a2 - x10_1)) (wrap64 ((wrap64 (a2 + x11_1)) - x10_1)) x10_1  t142 w0 _ ?side1 ?side2 A14.out).mono ?_); (case side1 => repeat (first | (with_reducible first | exact HB.out | apply below_alloc | apply pw_below_drewN | apply below_drew1) | exact HB.out)); (case side2 => exact Kd.R_tight rfl HO_0.out); rintro e w16 ⟨rfl, hy0, hb, hkp⟩; refine ⟨_, rfl, ?_⟩; have n0_ := Aside0.mk (Kd.R_reok rfl hy0 (fun k_ e_ => HO_0.out.1 k_ e_)); have n1_ := Aside0.mk (Kept.then_ (S := (fun k_ => P0_ k_)) (by repeat (first | (with_reducible first | exact HK.out | apply Kept.alloc | apply Kept.drewN | apply Kept.drew) | exact HK.out)) hkp (fun k_ hs_ => (fun e_ => (HO_0.out.1 k_ e_.symm)) hs_)); have n2_ := Aside0.mk (hb); clear HO_0; clear HK; clear HB; have HO_0 := n0_; have HK := n1_; have HB := n2_; clear n0_ n1_ n2_; (try clear hb); (try clear hkp); (try clear hy0)))
 go_roundg k1
 case measure => have := HK1.out; omega
 case rel => exact ⟨(t142), (x10_1), (wrap64 (x11_1 - x10_1)), (by first | rfl | (simp; done) | (simp [*]; done) | (simp [ne_nil_bytes]; done) | (simp [eq_nil_bytes]; done)), (by first | rfl | (simp; done) | (simp [*]; done) | (simp [ne_nil_bytes]; done) | (simp [eq_nil_bytes]; done)), H', ⟨by have := HK1.out; omega⟩, ⟨by exact rL HO_0.out⟩, ⟨by repeat (first | (with_reducible first | exact HK.out | apply Kept.alloc | apply Kept.drewN | apply Kept.drew) | exact HK.out)⟩, ⟨hL HB.out⟩⟩

end Go.Proofs.Ytdaikljbljcagaa.PAll
