-- Written by a program of this session for this claim (mp.py, over the kit's print); Lean checks it.
import Derived.Test.YtkkfkccfnfjbiaaPAllx0
import Derived.Test.YtkkfkccfnfjbiaaPAllx11
namespace Go.Proofs.Ytkkfkccfnfjbiaa.PAll
open Go.RowKit Go.Proofs.YtkkfkccfnfjbiaaW.PrintWords Go.Proofs.YtkkfkccfnfjbiaaW.PrintLast Go.Proofs.YtkkfkccfnfjbiaaW.PrintMore Go.Proofs.Ytkkfkccfnfjbiaa.Fv Go.Proofs.Ytkkfkccfnfjbiaa.Hl
attribute [local go_sem] max2_int min2_int max_two min_two max_three min_three max_four min_four str_gtr str_leq str_geq cell_set2   -- for this text's walks alone
set_option linter.unusedVariables false
set_option linter.unusedSimpArgs false

/-! ### shelfmarkref09_Slice: function 19 -/
mutual
def shelfmarkref09_Slice.l0 : Nat → List (S37) → List (S37) → Int → ByteArray → ByteArray → Option ((List (S37)))
 | 0, _, _, _, _, _ => none
 | k + 1, x0, x5, x6, x311000, x311001 => if x6 < (x0.length : Int) then ((shelfmarkref09_Right.f k x0).bind fun t311 => (shelfmarkref09_Slice.j1 k x0 x5 x6 t311 x311000 x311001)) else (shelfmarkref09_Slice.j1 k x0 x5 x6 false x311000 x311001)
def shelfmarkref09_Slice.j1 : Nat → List (S37) → List (S37) → Int → Bool → ByteArray → ByteArray → Option ((List (S37)))
 | 0, _, _, _, _, _, _ => none
 | k + 1, x0, x5, x6, x14, x311000, x311001 => if x14 = true then (if 0 ≤ x6 then (if x6 < (x0.length : Int) then (if ((Op.bytesLess (((rd_T37 x0 x6).f0).toList) x311000.toList) = true) then (shelfmarkref09_Slice.l0 k x0 x5 (wrap64 (x6 + 1)) x311000 x311001) else (if x311001.toList = ([] : List UInt8) then (if x5.length < 3518437208883 then (shelfmarkref09_Slice.l0 k x0 (x5 ++ [(⟨(rd_T37 x0 x6).f0, (rd_T37 x0 x6).f1, (rd_T37 x0 x6).f2⟩ : S37)]) (wrap64 (x6 + 1)) x311000 x311001) else (none)) else (if (Op.bytesLess (((rd_T37 x0 x6).f0).toList) x311001.toList) = true then (if x5.length < 3518437208883 then (shelfmarkref09_Slice.l0 k x0 (x5 ++ [(⟨(rd_T37 x0 x6).f0, (rd_T37 x0 x6).f1, (rd_T37 x0 x6).f2⟩ : S37)]) (wrap64 (x6 + 1)) x311000 x311001) else (none)) else (shelfmarkref09_Slice.l0 k x0 x5 (wrap64 (x6 + 1)) x311000 x311001)))) else (none)) else (none)) else (some x5)
end
def shelfmarkref09_Slice.f (k : Nat) (l0 : List (S37)) (a1_0 : ByteArray) (a1_1 : ByteArray) : Option ((List (S37))) := shelfmarkref09_Slice.l0 k l0 ([] : List (S37)) 0 a1_0 a1_1
theorem shelfmarkref09_Slice.mono_l : ∀ k, (∀ y0 y1 y2 y3 y4, LeO (shelfmarkref09_Slice.l0 k y0 y1 y2 y3 y4) (shelfmarkref09_Slice.l0 (k + 1) y0 y1 y2 y3 y4)) ∧ (∀ y0 y1 y2 y3 y4 y5, LeO (shelfmarkref09_Slice.j1 k y0 y1 y2 y3 y4 y5) (shelfmarkref09_Slice.j1 (k + 1) y0 y1 y2 y3 y4 y5))
 | 0 => ⟨fun _ _ _ _ _ r h => by simp [shelfmarkref09_Slice.l0] at h, fun _ _ _ _ _ _ r h => by simp [shelfmarkref09_Slice.j1] at h⟩
 | k + 1 => by
  obtain ⟨ih0, ih1⟩ := shelfmarkref09_Slice.mono_l k
  refine ⟨?_, ?_⟩
  ·intro y0 y1 y2 y3 y4
   unfold shelfmarkref09_Slice.l0
   repeat' first
   | (with_reducible exact ih0 _ _ _ _ _)
   | (with_reducible exact ih1 _ _ _ _ _ _)
   | (with_reducible exact shelfmarkref09_Right.mono _ _)
   | (with_reducible exact LeO.refl _)
   | (with_reducible exact LeO.none _)
   | (with_reducible refine LeO.ite ?_ ?_)
   | (with_reducible refine LeO.bind ?_ (fun _ => ?_))
   | exact ih0 _ _ _ _ _
   | exact ih1 _ _ _ _ _ _
   | exact shelfmarkref09_Right.mono _ _
   | exact LeO.none _
   | refine LeO.ite ?_ ?_
   | refine LeO.bind ?_ (fun _ => ?_)
  ·intro y0 y1 y2 y3 y4 y5
   unfold shelfmarkref09_Slice.j1
   repeat' first
   | (with_reducible exact ih0 _ _ _ _ _)
   | (with_reducible exact ih1 _ _ _ _ _ _)
   | (with_reducible exact shelfmarkref09_Right.mono _ _)
   | (with_reducible exact LeO.refl _)
   | (with_reducible exact LeO.none _)
   | (with_reducible refine LeO.ite ?_ ?_)
   | (with_reducible refine LeO.bind ?_ (fun _ => ?_))
   | exact ih0 _ _ _ _ _
   | exact ih1 _ _ _ _ _ _
   | exact shelfmarkref09_Right.mono _ _
   | exact LeO.none _
   | refine LeO.ite ?_ ?_
   | refine LeO.bind ?_ (fun _ => ?_)
theorem shelfmarkref09_Slice.mono : ∀ a0 a1 a2 k, LeO (shelfmarkref09_Slice.f k a0 a1 a2) (shelfmarkref09_Slice.f (k + 1) a0 a1 a2) := by
 intro a0 a1 a2 k
 obtain ⟨ih0, ih1⟩ := shelfmarkref09_Slice.mono_l k
 unfold shelfmarkref09_Slice.f
 repeat' first
   | (with_reducible exact ih0 _ _ _ _ _)
   | (with_reducible exact ih1 _ _ _ _ _ _)
   | (with_reducible exact shelfmarkref09_Right.mono _ _)
   | (with_reducible exact LeO.refl _)
   | (with_reducible exact LeO.none _)
   | (with_reducible refine LeO.ite ?_ ?_)
   | (with_reducible refine LeO.bind ?_ (fun _ => ?_))
   | exact ih0 _ _ _ _ _
   | exact ih1 _ _ _ _ _ _
   | exact shelfmarkref09_Right.mono _ _
   | exact LeO.none _
   | refine LeO.ite ?_ ?_
   | refine LeO.bind ?_ (fun _ => ?_)
set_option maxHeartbeats 8000000 in
set_option maxRecDepth 100000 in
theorem shelfmarkref09_Slice.calls (k : Nat) (A0 : Option Addr) (c0 : Nat) (l0 : List (S37)) (a1_0 : ByteArray) (a1_1 : ByteArray) (r : List (S37)) (w : World) (hr0 : Kd.C k37 w A0 l0.length l0) (hc0 : l0.length ≤ c0) (h : shelfmarkref09_Slice.f k l0 a1_0 a1_1 = some r) :
  Calls Try.prog 19 #[.slice A0 l0.length c0, .agg #[.string a1_0, .string a1_1]] w fun e w' => ∃ v0_ : Value, e = .returned (v0_) ∧ Kd.R k37 37 w' w.heap.size (fun _ => True) v0_ r ∧ Below w.heap.size w w' := by
 have hu34 := Try.underlying34
 have hu37 := Try.underlying37
 have HR0 := Aside0.mk hr0
 have HC0 := Aside0.mk hc0
 clear hr0 hc0
 have HB := Aside0.mk (Below.refl w.heap.size w)
 have H : (shelfmarkref09_Slice.l0 k l0 ([] : List (S37)) 0 a1_0 a1_1) = some r := h
 clear h
 have H' := Aside0.mk H
 clear H
 go_enter Try.func19, Try.ntmps19
 go_wp2_with (first | ((with_reducible refine gate_dst (N := 3) rfl ?_); refine box_event ?hg (N := 3) ?hd (cs := #[.string a1_0, .string a1_1]) (t := 34) ?hr ?_; (case hd => rfl); (case hg => rfl); (case hr => first | (go_simp; done) | (go_simp; rfl)); intro gb310 hg w3 hbox hb; have n0_ := Aside0.mk (below_step (hL HB.out) hb); have n1_ := Aside0.mk (hbox); have n2_ := Above.mk ((by rw [hg]; exact (below_size (hL HB.out)) : w.heap.size ≤ gb310)); have n3_ := Above.mk ((by rw [hg]; exact (below_size (hL HB.out)) : w.heap.size ≤ gb310)); clear HB; have HB := n0_; have BK310 := n1_; have GW310 := n2_; have GE310 := n3_; clear n0_ n1_ n2_ n3_; clear hb hbox hg))
 repeat (go_quiet (first | ((with_reducible refine gate_dst (N := 3) rfl ?_); refine box_event ?hg (N := 3) ?hd (cs := #[.string a1_0, .string a1_1]) (t := 34) ?hr ?_; (case hd => rfl); (case hg => rfl); (case hr => first | (go_simp; done) | (go_simp; rfl)); intro gb310 hg w3 hbox hb; have n0_ := Aside0.mk (below_step (hL HB.out) hb); have n1_ := Aside0.mk (hbox); have n2_ := Above.mk ((by rw [hg]; exact (below_size (hL HB.out)) : w.heap.size ≤ gb310)); have n3_ := Above.mk ((by rw [hg]; exact (below_size (hL HB.out)) : w.heap.size ≤ gb310)); clear HB; have HB := n0_; have BK310 := n1_; have GW310 := n2_; have GE310 := n3_; clear n0_ n1_ n2_ n3_; clear hb hbox hg)); try go_wp2_with (first | ((with_reducible refine gate_dst (N := 3) rfl ?_); refine box_event ?hg (N := 3) ?hd (cs := #[.string a1_0, .string a1_1]) (t := 34) ?hr ?_; (case hd => rfl); (case hg => rfl); (case hr => first | (go_simp; done) | (go_simp; rfl)); intro gb310 hg w3 hbox hb; have n0_ := Aside0.mk (below_step (hL HB.out) hb); have n1_ := Aside0.mk (hbox); have n2_ := Above.mk ((by rw [hg]; exact (below_size (hL HB.out)) : w.heap.size ≤ gb310)); have n3_ := Above.mk ((by rw [hg]; exact (below_size (hL HB.out)) : w.heap.size ≤ gb310)); clear HB; have HB := n0_; have BK310 := n1_; have GW310 := n2_; have GE310 := n3_; clear n0_ n1_ n2_ n3_; clear hb hbox hg)))
 go_loopg [5, 6] k (fun kq v5 v6 w' => ∃ (x5_1 : List (S37)) (x6_1 : Int), v6 = .int .i64 x6_1 ∧ Aside0 (shelfmarkref09_Slice.l0 kq l0 x5_1 x6_1 a1_0 a1_1 = some r) ∧ Aside0 (kq ≤ k) ∧ Aside0 (Kd.R k37 37 w' w.heap.size (fun _ => True) v5 x5_1) ∧ Aside0 (w'.heap[gb310]? = some (.cells #[.string a1_0, .string a1_1] 34 (0, 0))) ∧ Aside0 (Below w.heap.size w w'))
 case atStart => exact ⟨(([] : List (S37))), (0), (by first | rfl | (simp; done) | (simp [*]; done) | (simp [ne_nil_bytes]; done) | (simp [eq_nil_bytes]; done)), H', ⟨Nat.le_refl _⟩, ⟨by first | exact Kd.R_nil _ _ _ _ _ | exact Kd.N_nil _ _ _ _ _ | exact Kd.V_nil _ _ _ _ _ | exact Kd.Q_nil _ _ _ _ _ | exact Kd.S_nil _ _ _ _ _⟩, ⟨by exact bL BK310.out⟩, ⟨hL HB.out⟩⟩
 clear H'
 try clear c1
 try clear p2
 obtain ⟨x5_1, x6_1, rfl, HA, HK1, HO_5, BK310, HB⟩ := hrel
 rcases gk with _ | k1
 ·exact absurd HA.out (by simp [shelfmarkref09_Slice.l0])
 have H := HA.out
 clear HA
 simp only [shelfmarkref09_Slice.l0] at H
 have HC4 := Aside0.mk H
 clear H
 go_upto_region 3 with (fail)
 repeat (go_quiet (fail); go_upto_region 3 with (fail))
 go_cut [14] (fun v14 wc => ∃ (kq : Nat) (x14_3 : Bool), v14 = .bool x14_3 ∧ Aside0 (shelfmarkref09_Slice.j1 kq l0 x5_1 x6_1 x14_3 a1_0 a1_1 = some r) ∧ Aside0 (kq ≤ k1) ∧ Aside0 (Kd.R k37 37 wc w.heap.size (fun _ => True) u5 x5_1) ∧ Aside0 (wc.heap[gb310]? = some (.cells #[.string a1_0, .string a1_1] 34 (0, 0))) ∧ Aside0 (Below w.heap.size w wc))
 case first =>
  have H := HC4.out
  clear HC4
  by_cases c5 : x6_1 < (l0.length : Int)
  rotate_left
  ·rw [if_neg c5] at H
   have c5b0 : decide (x6_1 < (l0.length : Int)) = false := decide_eq_false c5
   clear c5
   (first | rw [c5b0] | (simp only [i64_w, i32_w]; rw [c5b0]) | skip)
   have H' := Aside0.mk H
   clear H
   go_wp2
   repeat (go_quiet (fail); try go_wp2)
   go_meet
   case rel => exact ⟨_, (false), (by first | rfl | (simp; done) | (simp [*]; done) | (simp [ne_nil_bytes]; done) | (simp [eq_nil_bytes]; done)), H', ⟨by have := HK1.out; first | omega | exact Nat.le_refl _⟩, ⟨by exact rL HO_5.out⟩, ⟨by exact bL BK310.out⟩, ⟨hL HB.out⟩⟩
  rw [if_pos c5] at H
  have c5b0 : decide (x6_1 < (l0.length : Int)) = true := decide_eq_true c5
  clear c5
  (first | rw [c5b0] | (simp only [i64_w, i32_w]; rw [c5b0]) | skip)
  replace H := Option.bind_eq_some_iff.mp H
  obtain ⟨t311, A60, H⟩ := H
  replace H : (shelfmarkref09_Slice.j1 k1 l0 x5_1 x6_1 t311 a1_0 a1_1) = some r := H
  have A6 := Aside0.mk A60
  clear A60
  have H' := Aside0.mk H
  clear H
  go_wp2_with (first | (go_at_call 29; (with_reducible refine (shelfmarkref09_Right.calls k1 _ _ l0 t311 _ ?side1 ?side2 A6.out).mono ?_); (case side1 => repeat (first | exact (Kd.C_below HR0.out HB.out) | (with_reducible refine Kd.C_alloc ?_ _) | (with_reducible refine Kd.C_drewN ?_ _) | (with_reducible refine Kd.C_drew ?_))); (case side2 => exact HC0.out); rintro e w' ⟨rfl, ⟨nd, rfl⟩⟩; (try first | exact ⟨rfl, _, World.drewN_drewN _ _ _⟩ | exact ⟨rfl, _, Eq.trans (World.drewN_drewN _ _ _) (congrArg (World.drewN _) (Nat.add_assoc _ _ _))⟩)))
  repeat (go_quiet (first | (go_at_call 29; (with_reducible refine (shelfmarkref09_Right.calls k1 _ _ l0 t311 _ ?side1 ?side2 A6.out).mono ?_); (case side1 => repeat (first | exact (Kd.C_below HR0.out HB.out) | (with_reducible refine Kd.C_alloc ?_ _) | (with_reducible refine Kd.C_drewN ?_ _) | (with_reducible refine Kd.C_drew ?_))); (case side2 => exact HC0.out); rintro e w' ⟨rfl, ⟨nd, rfl⟩⟩; (try first | exact ⟨rfl, _, World.drewN_drewN _ _ _⟩ | exact ⟨rfl, _, Eq.trans (World.drewN_drewN _ _ _) (congrArg (World.drewN _) (Nat.add_assoc _ _ _))⟩))); try go_wp2_with (first | (go_at_call 29; (with_reducible refine (shelfmarkref09_Right.calls k1 _ _ l0 t311 _ ?side1 ?side2 A6.out).mono ?_); (case side1 => repeat (first | exact (Kd.C_below HR0.out HB.out) | (with_reducible refine Kd.C_alloc ?_ _) | (with_reducible refine Kd.C_drewN ?_ _) | (with_reducible refine Kd.C_drew ?_))); (case side2 => exact HC0.out); rintro e w' ⟨rfl, ⟨nd, rfl⟩⟩; (try first | exact ⟨rfl, _, World.drewN_drewN _ _ _⟩ | exact ⟨rfl, _, Eq.trans (World.drewN_drewN _ _ _) (congrArg (World.drewN _) (Nat.add_assoc _ _ _))⟩))))
  go_meet
  case rel => exact ⟨_, (t311), (by first | rfl | (simp; done) | (simp [*]; done) | (simp [ne_nil_bytes]; done) | (simp [eq_nil_bytes]; done)), H', ⟨by have := HK1.out; first | omega | exact Nat.le_refl _⟩, ⟨by exact rL HO_5.out⟩, ⟨by exact bL BK310.out⟩, ⟨hL HB.out⟩⟩
 clear HC4
 try clear c1
 try clear p2
 try clear c5
 try clear c5b0
 try clear c5b0z
 try clear p2
 obtain ⟨kq, x14_3, rfl, HA, HJ3, HO_5, BK310, HB⟩ := hcut
 rcases kq with _ | kj3
 ·exact absurd HA.out (by simp [shelfmarkref09_Slice.j1])
 have H := HA.out
 clear HA
 simp only [shelfmarkref09_Slice.j1] at H
 by_cases c7 : x14_3 = true
 rotate_left
 ·replace c7 := Bool.eq_false_iff.mpr c7
  subst c7
  have H1 : (some x5_1) = some r := by rw [if_neg (show ¬ (false = true) by decide)] at H; exact H
  clear H
  have H := H1
  clear H1
  obtain rfl := Option.some.inj H
  simp only [Option.some.injEq, Prod.mk.injEq] at H
  obtain ⟨rfl⟩ := H
  go_wp2
  repeat (go_quiet (fail); try go_wp2)
  go_ret
  exact ⟨_, by first | rfl | (simp [errW_none, errW_some] <;> rfl) | (simp [*, errW_none, errW_some] <;> rfl), by exact rL HO_5.out, hL HB.out⟩
 subst c7
 have H1 : (if 0 ≤ x6_1 then (if x6_1 < (l0.length : Int) then (if ((Op.bytesLess (((rd_T37 l0 x6_1).f0).toList) a1_0.toList) = true) then (shelfmarkref09_Slice.l0 kj3 l0 x5_1 (wrap64 (x6_1 + 1)) a1_0 a1_1) else (if a1_1.toList = ([] : List UInt8) then (if x5_1.length < 3518437208883 then (shelfmarkref09_Slice.l0 kj3 l0 (x5_1 ++ [(⟨(rd_T37 l0 x6_1).f0, (rd_T37 l0 x6_1).f1, (rd_T37 l0 x6_1).f2⟩ : S37)]) (wrap64 (x6_1 + 1)) a1_0 a1_1) else (none)) else (if (Op.bytesLess (((rd_T37 l0 x6_1).f0).toList) a1_1.toList) = true then (if x5_1.length < 3518437208883 then (shelfmarkref09_Slice.l0 kj3 l0 (x5_1 ++ [(⟨(rd_T37 l0 x6_1).f0, (rd_T37 l0 x6_1).f1, (rd_T37 l0 x6_1).f2⟩ : S37)]) (wrap64 (x6_1 + 1)) a1_0 a1_1) else (none)) else (shelfmarkref09_Slice.l0 kj3 l0 x5_1 (wrap64 (x6_1 + 1)) a1_0 a1_1)))) else (none)) else (none)) = some r := by rw [if_pos rfl] at H; exact H
 clear H
 have H := H1
 clear H1
 by_cases c8 : 0 ≤ x6_1
 rotate_left
 ·rw [if_neg c8] at H
  exact absurd H (by simp)
 rw [if_pos c8] at H
 have c8b0 : decide (0 ≤ x6_1) = true := decide_eq_true c8
 clear c8
 by_cases c9 : x6_1 < (l0.length : Int)
 rotate_left
 ·rw [if_neg c9] at H
  exact absurd H (by simp)
 rw [if_pos c9] at H
 have c9b0 : decide (x6_1 < (l0.length : Int)) = true := decide_eq_true c9
 clear c9
 by_cases c10 : ((Op.bytesLess (((rd_T37 l0 x6_1).f0).toList) a1_0.toList) = true)
 ·rw [if_pos c10] at H
  have c10b0 : (Op.bytesLess (((rd_T37 l0 x6_1).f0).toList) a1_0.toList) = true := c10
  clear c10
  have H' := Aside0.mk H
  clear H
  have p312 : 0 ≤ (x6_1 : Int) := of_decide_eq_true (by first | (with_reducible assumption) | assumption)
  have q312 : x6_1 < (l0.length : Int) := of_decide_eq_true (by first | (with_reducible assumption) | assumption)
  obtain ⟨ad312, e312, hx312_0, hx312_1, hx312_2⟩ := at_T37 HR0.out x6_1 p312 q312
  cases e312
  replace hx312_0 := (HB.out.cell (World.block_lt_of_cell? w _ hx312_0)).trans hx312_0
  replace hx312_1 := (HB.out.cell (World.block_lt_of_cell? w _ hx312_1)).trans hx312_1
  replace hx312_2 := (HB.out.cell (World.block_lt_of_cell? w _ hx312_2)).trans hx312_2
  replace p312 := eq_true p312
  replace q312 := eq_true q312
  have hcz11_0 : wc.cell? ⟨gb310, 0, none⟩ = some (.string a1_0) := (blk_cell BK310.out 0).trans rfl
  have hcz11_1 : wc.cell? ⟨gb310, 1, none⟩ = some (.string a1_1) := (blk_cell BK310.out 1).trans rfl
  have hfz11_0 := blk_frozen BK310.out 0
  have hfz11_1 := blk_frozen BK310.out 1
  go_wp2
  repeat (go_quiet (fail); try go_wp2)
  go_roundg kj3
  case measure => have := HK1.out; have := HJ3.out; omega
  case rel => exact ⟨(x5_1), (wrap64 (x6_1 + 1)), (by first | rfl | (simp; done) | (simp [*]; done) | (simp [ne_nil_bytes]; done) | (simp [eq_nil_bytes]; done)), H', ⟨by have := HK1.out; have := HJ3.out; omega⟩, ⟨by exact rL HO_5.out⟩, ⟨by exact bL BK310.out⟩, ⟨hL HB.out⟩⟩
 rw [if_neg c10] at H
 have c10b0 : (Op.bytesLess (((rd_T37 l0 x6_1).f0).toList) a1_0.toList) = false := by simpa using c10
 clear c10
 by_cases c12 : a1_1.toList = ([] : List UInt8)
 ·rw [if_pos c12] at H
  have c12b0 : (a1_1.toList == ([] : List UInt8)) = true := beq_iff_eq.mpr c12
  have c12b1 : (a1_1.toList != ([] : List UInt8)) = false := bne_eq_false_iff_eq.mpr c12
  clear c12
  by_cases c13 : x5_1.length < 3518437208883
  rotate_left
  ·rw [if_neg c13] at H
   exact absurd H (by simp)
  rw [if_pos c13] at H
  have LMc13 := Aside0.mk c13
  clear c13
  obtain ⟨y314, hy314⟩ : ∃ y_ : List (S37), y_ = (x5_1 ++ [(⟨(rd_T37 l0 x6_1).f0, (rd_T37 l0 x6_1).f1, (rd_T37 l0 x6_1).f2⟩ : S37)]) := ⟨_, rfl⟩
  replace H : (shelfmarkref09_Slice.l0 kj3 l0 y314 (wrap64 (x6_1 + 1)) a1_0 a1_1) = some r := by first | (rw [hy314]; with_reducible exact H) | (have H2_ := (Option.bind_some _ _).symm.trans H; rw [hy314]; with_reducible exact H2_) | (have H2_ := (Option.bind_some _ _).symm.trans H; with_reducible exact H2_) | with_reducible exact H | (rw [hy314]; exact H) | exact H
  have Ny314 := Aside0.mk hy314
  clear hy314
  have H' := Aside0.mk H
  clear H
  have p312 : 0 ≤ (x6_1 : Int) := of_decide_eq_true (by first | (with_reducible assumption) | assumption)
  have q312 : x6_1 < (l0.length : Int) := of_decide_eq_true (by first | (with_reducible assumption) | assumption)
  obtain ⟨ad312, e312, hx312_0, hx312_1, hx312_2⟩ := at_T37 HR0.out x6_1 p312 q312
  cases e312
  replace hx312_0 := (HB.out.cell (World.block_lt_of_cell? w _ hx312_0)).trans hx312_0
  replace hx312_1 := (HB.out.cell (World.block_lt_of_cell? w _ hx312_1)).trans hx312_1
  replace hx312_2 := (HB.out.cell (World.block_lt_of_cell? w _ hx312_2)).trans hx312_2
  replace p312 := eq_true p312
  replace q312 := eq_true q312
  have hcz14_0 : wc.cell? ⟨gb310, 0, none⟩ = some (.string a1_0) := (blk_cell BK310.out 0).trans rfl
  have hcz14_1 : wc.cell? ⟨gb310, 1, none⟩ = some (.string a1_1) := (blk_cell BK310.out 1).trans rfl
  have hfz14_0 := blk_frozen BK310.out 0
  have hfz14_1 := blk_frozen BK310.out 1
  have p313 : 0 ≤ (x6_1 : Int) := of_decide_eq_true (by first | (with_reducible assumption) | assumption)
  have q313 : x6_1 < (l0.length : Int) := of_decide_eq_true (by first | (with_reducible assumption) | assumption)
  obtain ⟨ad313, e313, hx313_0, hx313_1, hx313_2⟩ := at_T37 HR0.out x6_1 p313 q313
  obtain rfl : ad312 = ad313 := (by injection e313)
  replace hx313_0 := (HB.out.cell (World.block_lt_of_cell? w _ hx313_0)).trans hx313_0
  replace hx313_1 := (HB.out.cell (World.block_lt_of_cell? w _ hx313_1)).trans hx313_1
  replace hx313_2 := (HB.out.cell (World.block_lt_of_cell? w _ hx313_2)).trans hx313_2
  replace p313 := eq_true p313
  replace q313 := eq_true q313
  go_wp2_with (first | ((with_reducible refine gate_builtin (b := .append) (xs := #[.tmp 40, .tmp 45]) rfl ?_); at_builtin; refine Kd.R_append k37 (w0 := w) w.heap.size rfl (.tmp 40) (.tmp 45) 25 37 (.agg #[(.string ⟨#[]⟩), (.string ⟨#[]⟩), (.bool false)]) 40 rfl Try.underlying25 info37 rfl (by decide) (by omega) u5 x5_1 (⟨(rd_T37 l0 x6_1).f0, (rd_T37 l0 x6_1).f1, (rd_T37 l0 x6_1).f2⟩ : S37) [.string ((rd_T37 l0 x6_1).f0), .string ((rd_T37 l0 x6_1).f1), .bool ((rd_T37 l0 x6_1).f2)] (fun _ => True) (fun _ => False) rfl rfl ?aP (fun _ hk => hk.elim) ?aF ?aO ?aB ?aS ?aL ?_; (case aP => exact k37_mkM _ _ _ (⟨(rd_T37 l0 x6_1).f0, (rd_T37 l0 x6_1).f1, (rd_T37 l0 x6_1).f2⟩ : S37)); (case aB => exact (hL HB.out)); (case aF => exact (fun _ _ => trivial)); (case aO => exact (rL HO_5.out)); (case aS => exact (below_size (hL HB.out))); (case aL => have := LMc13.out; omega); intro v315 w15 ho hb hg hat; rw [← Ny314.out] at ho; have n0_ := Aside0.mk (blk_grown (g := gb310) (o := .cells #[.string a1_0, .string a1_1] 34 (0, 0)) (bL BK310.out) hg (Kd.R_ne HO_5.out BK310.out (by decide))); have n1_ := Aside0.mk (hb); have n2_ := Aside0.mk (ho); clear BK310; clear HB; clear HO_5; have BK310 := n0_; have HB := n1_; have HO316 := n2_; clear n0_ n1_ n2_; clear ho hb hg hat))
  repeat (go_quiet (first | ((with_reducible refine gate_builtin (b := .append) (xs := #[.tmp 40, .tmp 45]) rfl ?_); at_builtin; refine Kd.R_append k37 (w0 := w) w.heap.size rfl (.tmp 40) (.tmp 45) 25 37 (.agg #[(.string ⟨#[]⟩), (.string ⟨#[]⟩), (.bool false)]) 40 rfl Try.underlying25 info37 rfl (by decide) (by omega) u5 x5_1 (⟨(rd_T37 l0 x6_1).f0, (rd_T37 l0 x6_1).f1, (rd_T37 l0 x6_1).f2⟩ : S37) [.string ((rd_T37 l0 x6_1).f0), .string ((rd_T37 l0 x6_1).f1), .bool ((rd_T37 l0 x6_1).f2)] (fun _ => True) (fun _ => False) rfl rfl ?aP (fun _ hk => hk.elim) ?aF ?aO ?aB ?aS ?aL ?_; (case aP => exact k37_mkM _ _ _ (⟨(rd_T37 l0 x6_1).f0, (rd_T37 l0 x6_1).f1, (rd_T37 l0 x6_1).f2⟩ : S37)); (case aB => exact (hL HB.out)); (case aF => exact (fun _ _ => trivial)); (case aO => exact (rL HO_5.out)); (case aS => exact (below_size (hL HB.out))); (case aL => have := LMc13.out; omega); intro v315 w15 ho hb hg hat; rw [← Ny314.out] at ho; have n0_ := Aside0.mk (blk_grown (g := gb310) (o := .cells #[.string a1_0, .string a1_1] 34 (0, 0)) (bL BK310.out) hg (Kd.R_ne HO_5.out BK310.out (by decide))); have n1_ := Aside0.mk (hb); have n2_ := Aside0.mk (ho); clear BK310; clear HB; clear HO_5; have BK310 := n0_; have HB := n1_; have HO316 := n2_; clear n0_ n1_ n2_; clear ho hb hg hat)); try go_wp2_with (first | ((with_reducible refine gate_builtin (b := .append) (xs := #[.tmp 40, .tmp 45]) rfl ?_); at_builtin; refine Kd.R_append k37 (w0 := w) w.heap.size rfl (.tmp 40) (.tmp 45) 25 37 (.agg #[(.string ⟨#[]⟩), (.string ⟨#[]⟩), (.bool false)]) 40 rfl Try.underlying25 info37 rfl (by decide) (by omega) u5 x5_1 (⟨(rd_T37 l0 x6_1).f0, (rd_T37 l0 x6_1).f1, (rd_T37 l0 x6_1).f2⟩ : S37) [.string ((rd_T37 l0 x6_1).f0), .string ((rd_T37 l0 x6_1).f1), .bool ((rd_T37 l0 x6_1).f2)] (fun _ => True) (fun _ => False) rfl rfl ?aP (fun _ hk => hk.elim) ?aF ?aO ?aB ?aS ?aL ?_; (case aP => exact k37_mkM _ _ _ (⟨(rd_T37 l0 x6_1).f0, (rd_T37 l0 x6_1).f1, (rd_T37 l0 x6_1).f2⟩ : S37)); (case aB => exact (hL HB.out)); (case aF => exact (fun _ _ => trivial)); (case aO => exact (rL HO_5.out)); (case aS => exact (below_size (hL HB.out))); (case aL => have := LMc13.out; omega); intro v315 w15 ho hb hg hat; rw [← Ny314.out] at ho; have n0_ := Aside0.mk (blk_grown (g := gb310) (o := .cells #[.string a1_0, .string a1_1] 34 (0, 0)) (bL BK310.out) hg (Kd.R_ne HO_5.out BK310.out (by decide))); have n1_ := Aside0.mk (hb); have n2_ := Aside0.mk (ho); clear BK310; clear HB; clear HO_5; have BK310 := n0_; have HB := n1_; have HO316 := n2_; clear n0_ n1_ n2_; clear ho hb hg hat)))
  go_roundg kj3
  case measure => have := HK1.out; have := HJ3.out; omega
  case rel => exact ⟨(y314), (wrap64 (x6_1 + 1)), (by first | rfl | (simp; done) | (simp [*]; done) | (simp [ne_nil_bytes]; done) | (simp [eq_nil_bytes]; done)), H', ⟨by have := HK1.out; have := HJ3.out; omega⟩, ⟨by exact rL HO316.out⟩, ⟨by exact bL BK310.out⟩, ⟨hL HB.out⟩⟩
 rw [if_neg c12] at H
 have c12b0 : (a1_1.toList == ([] : List UInt8)) = false := beq_eq_false_iff_ne.mpr c12
 have c12b1 : (a1_1.toList != ([] : List UInt8)) = true := bne_iff_ne.mpr c12
 by_cases c16 : (Op.bytesLess (((rd_T37 l0 x6_1).f0).toList) a1_1.toList) = true
 rotate_left
 ·rw [if_neg c16] at H
  have c16b0 : (Op.bytesLess (((rd_T37 l0 x6_1).f0).toList) a1_1.toList) = false := by simpa using c16
  clear c16
  have H' := Aside0.mk H
  clear H
  have p312 : 0 ≤ (x6_1 : Int) := of_decide_eq_true (by first | (with_reducible assumption) | assumption)
  have q312 : x6_1 < (l0.length : Int) := of_decide_eq_true (by first | (with_reducible assumption) | assumption)
  obtain ⟨ad312, e312, hx312_0, hx312_1, hx312_2⟩ := at_T37 HR0.out x6_1 p312 q312
  cases e312
  replace hx312_0 := (HB.out.cell (World.block_lt_of_cell? w _ hx312_0)).trans hx312_0
  replace hx312_1 := (HB.out.cell (World.block_lt_of_cell? w _ hx312_1)).trans hx312_1
  replace hx312_2 := (HB.out.cell (World.block_lt_of_cell? w _ hx312_2)).trans hx312_2
  replace p312 := eq_true p312
  replace q312 := eq_true q312
  have hcz20_0 : wc.cell? ⟨gb310, 0, none⟩ = some (.string a1_0) := (blk_cell BK310.out 0).trans rfl
  have hcz20_1 : wc.cell? ⟨gb310, 1, none⟩ = some (.string a1_1) := (blk_cell BK310.out 1).trans rfl
  have hfz20_0 := blk_frozen BK310.out 0
  have hfz20_1 := blk_frozen BK310.out 1
  have p317 : 0 ≤ (x6_1 : Int) := of_decide_eq_true (by first | (with_reducible assumption) | assumption)
  have q317 : x6_1 < (l0.length : Int) := of_decide_eq_true (by first | (with_reducible assumption) | assumption)
  obtain ⟨ad317, e317, hx317_0, hx317_1, hx317_2⟩ := at_T37 HR0.out x6_1 p317 q317
  obtain rfl : ad312 = ad317 := (by injection e317)
  replace hx317_0 := (HB.out.cell (World.block_lt_of_cell? w _ hx317_0)).trans hx317_0
  replace hx317_1 := (HB.out.cell (World.block_lt_of_cell? w _ hx317_1)).trans hx317_1
  replace hx317_2 := (HB.out.cell (World.block_lt_of_cell? w _ hx317_2)).trans hx317_2
  replace p317 := eq_true p317
  replace q317 := eq_true q317
  go_wp2
  repeat (go_quiet (fail); try go_wp2)
  go_roundg kj3
  case measure => have := HK1.out; have := HJ3.out; omega
  case rel => exact ⟨(x5_1), (wrap64 (x6_1 + 1)), (by first | rfl | (simp; done) | (simp [*]; done) | (simp [ne_nil_bytes]; done) | (simp [eq_nil_bytes]; done)), H', ⟨by have := HK1.out; have := HJ3.out; omega⟩, ⟨by exact rL HO_5.out⟩, ⟨by exact bL BK310.out⟩, ⟨hL HB.out⟩⟩
 rw [if_pos c16] at H
 have c16b0 : (Op.bytesLess (((rd_T37 l0 x6_1).f0).toList) a1_1.toList) = true := c16
 clear c16
 by_cases c17 : x5_1.length < 3518437208883
 rotate_left
 ·rw [if_neg c17] at H
  exact absurd H (by simp)
 rw [if_pos c17] at H
 have LMc17 := Aside0.mk c17
 clear c17
 obtain ⟨y319, hy319⟩ : ∃ y_ : List (S37), y_ = (x5_1 ++ [(⟨(rd_T37 l0 x6_1).f0, (rd_T37 l0 x6_1).f1, (rd_T37 l0 x6_1).f2⟩ : S37)]) := ⟨_, rfl⟩
 replace H : (shelfmarkref09_Slice.l0 kj3 l0 y319 (wrap64 (x6_1 + 1)) a1_0 a1_1) = some r := by first | (rw [hy319]; with_reducible exact H) | (have H2_ := (Option.bind_some _ _).symm.trans H; rw [hy319]; with_reducible exact H2_) | (have H2_ := (Option.bind_some _ _).symm.trans H; with_reducible exact H2_) | with_reducible exact H | (rw [hy319]; exact H) | exact H
 have Ny319 := Aside0.mk hy319
 clear hy319
 have H' := Aside0.mk H
 clear H
 have p312 : 0 ≤ (x6_1 : Int) := of_decide_eq_true (by first | (with_reducible assumption) | assumption)
 have q312 : x6_1 < (l0.length : Int) := of_decide_eq_true (by first | (with_reducible assumption) | assumption)
 obtain ⟨ad312, e312, hx312_0, hx312_1, hx312_2⟩ := at_T37 HR0.out x6_1 p312 q312
 cases e312
 replace hx312_0 := (HB.out.cell (World.block_lt_of_cell? w _ hx312_0)).trans hx312_0
 replace hx312_1 := (HB.out.cell (World.block_lt_of_cell? w _ hx312_1)).trans hx312_1
 replace hx312_2 := (HB.out.cell (World.block_lt_of_cell? w _ hx312_2)).trans hx312_2
 replace p312 := eq_true p312
 replace q312 := eq_true q312
 have hcz18_0 : wc.cell? ⟨gb310, 0, none⟩ = some (.string a1_0) := (blk_cell BK310.out 0).trans rfl
 have hcz18_1 : wc.cell? ⟨gb310, 1, none⟩ = some (.string a1_1) := (blk_cell BK310.out 1).trans rfl
 have hfz18_0 := blk_frozen BK310.out 0
 have hfz18_1 := blk_frozen BK310.out 1
 have p317 : 0 ≤ (x6_1 : Int) := of_decide_eq_true (by first | (with_reducible assumption) | assumption)
 have q317 : x6_1 < (l0.length : Int) := of_decide_eq_true (by first | (with_reducible assumption) | assumption)
 obtain ⟨ad317, e317, hx317_0, hx317_1, hx317_2⟩ := at_T37 HR0.out x6_1 p317 q317
 obtain rfl : ad312 = ad317 := (by injection e317)
 replace hx317_0 := (HB.out.cell (World.block_lt_of_cell? w _ hx317_0)).trans hx317_0
 replace hx317_1 := (HB.out.cell (World.block_lt_of_cell? w _ hx317_1)).trans hx317_1
 replace hx317_2 := (HB.out.cell (World.block_lt_of_cell? w _ hx317_2)).trans hx317_2
 replace p317 := eq_true p317
 replace q317 := eq_true q317
 have p318 : 0 ≤ (x6_1 : Int) := of_decide_eq_true (by first | (with_reducible assumption) | assumption)
 have q318 : x6_1 < (l0.length : Int) := of_decide_eq_true (by first | (with_reducible assumption) | assumption)
 obtain ⟨ad318, e318, hx318_0, hx318_1, hx318_2⟩ := at_T37 HR0.out x6_1 p318 q318
 obtain rfl : ad312 = ad318 := (by injection e318)
 replace hx318_0 := (HB.out.cell (World.block_lt_of_cell? w _ hx318_0)).trans hx318_0
 replace hx318_1 := (HB.out.cell (World.block_lt_of_cell? w _ hx318_1)).trans hx318_1
 replace hx318_2 := (HB.out.cell (World.block_lt_of_cell? w _ hx318_2)).trans hx318_2
 replace p318 := eq_true p318
 replace q318 := eq_true q318
 go_wp2_with (first | ((with_reducible refine gate_builtin (b := .append) (xs := #[.tmp 40, .tmp 45]) rfl ?_); at_builtin; refine Kd.R_append k37 (w0 := w) w.heap.size rfl (.tmp 40) (.tmp 45) 25 37 (.agg #[(.string ⟨#[]⟩), (.string ⟨#[]⟩), (.bool false)]) 40 rfl Try.underlying25 info37 rfl (by decide) (by omega) u5 x5_1 (⟨(rd_T37 l0 x6_1).f0, (rd_T37 l0 x6_1).f1, (rd_T37 l0 x6_1).f2⟩ : S37) [.string ((rd_T37 l0 x6_1).f0), .string ((rd_T37 l0 x6_1).f1), .bool ((rd_T37 l0 x6_1).f2)] (fun _ => True) (fun _ => False) rfl rfl ?aP (fun _ hk => hk.elim) ?aF ?aO ?aB ?aS ?aL ?_; (case aP => exact k37_mkM _ _ _ (⟨(rd_T37 l0 x6_1).f0, (rd_T37 l0 x6_1).f1, (rd_T37 l0 x6_1).f2⟩ : S37)); (case aB => exact (hL HB.out)); (case aF => exact (fun _ _ => trivial)); (case aO => exact (rL HO_5.out)); (case aS => exact (below_size (hL HB.out))); (case aL => have := LMc17.out; omega); intro v320 w19 ho hb hg hat; rw [← Ny319.out] at ho; have n0_ := Aside0.mk (blk_grown (g := gb310) (o := .cells #[.string a1_0, .string a1_1] 34 (0, 0)) (bL BK310.out) hg (Kd.R_ne HO_5.out BK310.out (by decide))); have n1_ := Aside0.mk (hb); have n2_ := Aside0.mk (ho); clear BK310; clear HB; clear HO_5; have BK310 := n0_; have HB := n1_; have HO321 := n2_; clear n0_ n1_ n2_; clear ho hb hg hat))
 repeat (go_quiet (first | ((with_reducible refine gate_builtin (b := .append) (xs := #[.tmp 40, .tmp 45]) rfl ?_); at_builtin; refine Kd.R_append k37 (w0 := w) w.heap.size rfl (.tmp 40) (.tmp 45) 25 37 (.agg #[(.string ⟨#[]⟩), (.string ⟨#[]⟩), (.bool false)]) 40 rfl Try.underlying25 info37 rfl (by decide) (by omega) u5 x5_1 (⟨(rd_T37 l0 x6_1).f0, (rd_T37 l0 x6_1).f1, (rd_T37 l0 x6_1).f2⟩ : S37) [.string ((rd_T37 l0 x6_1).f0), .string ((rd_T37 l0 x6_1).f1), .bool ((rd_T37 l0 x6_1).f2)] (fun _ => True) (fun _ => False) rfl rfl ?aP (fun _ hk => hk.elim) ?aF ?aO ?aB ?aS ?aL ?_; (case aP => exact k37_mkM _ _ _ (⟨(rd_T37 l0 x6_1).f0, (rd_T37 l0 x6_1).f1, (rd_T37 l0 x6_1).f2⟩ : S37)); (case aB => exact (hL HB.out)); (case aF => exact (fun _ _ => trivial)); (case aO => exact (rL HO_5.out)); (case aS => exact (below_size (hL HB.out))); (case aL => have := LMc17.out; omega); intro v320 w19 ho hb hg hat; rw [← Ny319.out] at ho; have n0_ := Aside0.mk (blk_grown (g := gb310) (o := .cells #[.string a1_0, .string a1_1] 34 (0, 0)) (bL BK310.out) hg (Kd.R_ne HO_5.out BK310.out (by decide))); have n1_ := Aside0.mk (hb); have n2_ := Aside0.mk (ho); clear BK310; clear HB; clear HO_5; have BK310 := n0_; have HB := n1_; have HO321 := n2_; clear n0_ n1_ n2_; clear ho hb hg hat)); try go_wp2_with (first | ((with_reducible refine gate_builtin (b := .append) (xs := #[.tmp 40, .tmp 45]) rfl ?_); at_builtin; refine Kd.R_append k37 (w0 := w) w.heap.size rfl (.tmp 40) (.tmp 45) 25 37 (.agg #[(.string ⟨#[]⟩), (.string ⟨#[]⟩), (.bool false)]) 40 rfl Try.underlying25 info37 rfl (by decide) (by omega) u5 x5_1 (⟨(rd_T37 l0 x6_1).f0, (rd_T37 l0 x6_1).f1, (rd_T37 l0 x6_1).f2⟩ : S37) [.string ((rd_T37 l0 x6_1).f0), .string ((rd_T37 l0 x6_1).f1), .bool ((rd_T37 l0 x6_1).f2)] (fun _ => True) (fun _ => False) rfl rfl ?aP (fun _ hk => hk.elim) ?aF ?aO ?aB ?aS ?aL ?_; (case aP => exact k37_mkM _ _ _ (⟨(rd_T37 l0 x6_1).f0, (rd_T37 l0 x6_1).f1, (rd_T37 l0 x6_1).f2⟩ : S37)); (case aB => exact (hL HB.out)); (case aF => exact (fun _ _ => trivial)); (case aO => exact (rL HO_5.out)); (case aS => exact (below_size (hL HB.out))); (case aL => have := LMc17.out; omega); intro v320 w19 ho hb hg hat; rw [← Ny319.out] at ho; have n0_ := Aside0.mk (blk_grown (g := gb310) (o := .cells #[.string a1_0, .string a1_1] 34 (0, 0)) (bL BK310.out) hg (Kd.R_ne HO_5.out BK310.out (by decide))); have n1_ := Aside0.mk (hb); have n2_ := Aside0.mk (ho); clear BK310; clear HB; clear HO_5; have BK310 := n0_; have HB := n1_; have HO321 := n2_; clear n0_ n1_ n2_; clear ho hb hg hat)))
 go_roundg kj3
 case measure => have := HK1.out; have := HJ3.out; omega
 case rel => exact ⟨(y319), (wrap64 (x6_1 + 1)), (by first | rfl | (simp; done) | (simp [*]; done) | (simp [ne_nil_bytes]; done) | (simp [eq_nil_bytes]; done)), H', ⟨by have := HK1.out; have := HJ3.out; omega⟩, ⟨by exact rL HO321.out⟩, ⟨by exact bL BK310.out⟩, ⟨hL HB.out⟩⟩

end Go.Proofs.Ytkkfkccfnfjbiaa.PAll
