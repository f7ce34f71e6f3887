-- Written by a program of this session for this claim (mp.py, over the kit's print); Lean checks it.
import Derived.Test.YtmgjccpolkhhhaaPAllx0
namespace Go.Proofs.Ytmgjccpolkhhhaa.PAll
open Go.RowKit Go.Proofs.YtmgjccpolkhhhaaW.PrintWords Go.Proofs.YtmgjccpolkhhhaaW.PrintLast Go.Proofs.YtmgjccpolkhhhaaW.PrintMore Go.Proofs.Ytmgjccpolkhhhaa.Fv Go.Proofs.Ytmgjccpolkhhhaa.Hl
attribute [local go_sem] max2_int min2_int max_two min_two max_three min_three max_four min_four str_gtr str_leq str_geq cell_set2   -- for this text's walks alone
set_option linter.unusedVariables false
set_option linter.unusedSimpArgs false

/-! ### shelfmarkref12_Check: function 18 -/
mutual
def shelfmarkref12_Check.j0 : Nat → Bool → Int → List (S46) → Option (Int)
 | 0, _, _, _ => none
 | k + 1, x12, x212000, x212001 => if x12 = true then (some 1) else (if (x212001.length : Int) < 1 then (shelfmarkref12_Check.j1 k true x212000 x212001) else (if (x212001.length : Int) > 8 then (shelfmarkref12_Check.j1 k true x212000 x212001) else (if 0 < (x212001.length : Int) then (shelfmarkref12_Check.j1 k (((rd_T46 x212001 0).f0).toList != ([] : List UInt8)) x212000 x212001) else (none))))
def shelfmarkref12_Check.j1 : Nat → Bool → Int → List (S46) → Option (Int)
 | 0, _, _, _ => none
 | k + 1, x30, x212000, x212001 => if x30 = true then (some 14) else (shelfmarkref12_Check.l0 k 0 x212000 x212001)
def shelfmarkref12_Check.l0 : Nat → Int → Int → List (S46) → Option (Int)
 | 0, _, _, _ => none
 | k + 1, x3, x212000, x212001 => if x3 < (x212001.length : Int) then (if 0 ≤ x3 then (if ((rd_T46 x212001 x3).f1) < 1 then (some 14) else (if ((rd_T46 x212001 x3).f1) > 4 then (some 14) else (if (((rd_T46 x212001 x3).f0).size : Int) > 100 then (some 14) else (if x3 > 0 then (if 0 ≤ (wrap64 (x3 - 1)) then (if (wrap64 (x3 - 1)) < (x212001.length : Int) then (if ((Op.bytesLess (((rd_T46 x212001 (wrap64 (x3 - 1))).f0).toList) (((rd_T46 x212001 x3).f0).toList)) = true) then (shelfmarkref12_Check.l0 k (wrap64 (x3 + 1)) x212000 x212001) else (some 14)) else (none)) else (none)) else (shelfmarkref12_Check.l0 k (wrap64 (x3 + 1)) x212000 x212001))))) else (none)) else (some 0)
end
def shelfmarkref12_Check.f (k : Nat) (a0_0 : Int) (l0_1 : List (S46)) : Option (Int) := if a0_0 < 1 then (shelfmarkref12_Check.j0 k true a0_0 l0_1) else (shelfmarkref12_Check.j0 k (decide (a0_0 > 1099511627776)) a0_0 l0_1)
theorem shelfmarkref12_Check.mono_l : ∀ k, (∀ y0 y1 y2, LeO (shelfmarkref12_Check.j0 k y0 y1 y2) (shelfmarkref12_Check.j0 (k + 1) y0 y1 y2)) ∧ (∀ y0 y1 y2, LeO (shelfmarkref12_Check.j1 k y0 y1 y2) (shelfmarkref12_Check.j1 (k + 1) y0 y1 y2)) ∧ (∀ y0 y1 y2, LeO (shelfmarkref12_Check.l0 k y0 y1 y2) (shelfmarkref12_Check.l0 (k + 1) y0 y1 y2))
 | 0 => ⟨fun _ _ _ r h => by simp [shelfmarkref12_Check.j0] at h, fun _ _ _ r h => by simp [shelfmarkref12_Check.j1] at h, fun _ _ _ r h => by simp [shelfmarkref12_Check.l0] at h⟩
 | k + 1 => by
  obtain ⟨ih0, ih1, ih2⟩ := shelfmarkref12_Check.mono_l k
  refine ⟨?_, ?_, ?_⟩
  ·intro y0 y1 y2
   unfold shelfmarkref12_Check.j0
   repeat' first
   | (with_reducible exact ih0 _ _ _)
   | (with_reducible exact ih1 _ _ _)
   | (with_reducible exact ih2 _ _ _)
   | (with_reducible exact LeO.refl _)
   | (with_reducible exact LeO.none _)
   | (with_reducible refine LeO.ite ?_ ?_)
   | (with_reducible refine LeO.bind ?_ (fun _ => ?_))
   | exact ih0 _ _ _
   | exact ih1 _ _ _
   | exact ih2 _ _ _
   | exact LeO.none _
   | refine LeO.ite ?_ ?_
   | refine LeO.bind ?_ (fun _ => ?_)
  ·intro y0 y1 y2
   unfold shelfmarkref12_Check.j1
   repeat' first
   | (with_reducible exact ih0 _ _ _)
   | (with_reducible exact ih1 _ _ _)
   | (with_reducible exact ih2 _ _ _)
   | (with_reducible exact LeO.refl _)
   | (with_reducible exact LeO.none _)
   | (with_reducible refine LeO.ite ?_ ?_)
   | (with_reducible refine LeO.bind ?_ (fun _ => ?_))
   | exact ih0 _ _ _
   | exact ih1 _ _ _
   | exact ih2 _ _ _
   | exact LeO.none _
   | refine LeO.ite ?_ ?_
   | refine LeO.bind ?_ (fun _ => ?_)
  ·intro y0 y1 y2
   unfold shelfmarkref12_Check.l0
   repeat' first
   | (with_reducible exact ih0 _ _ _)
   | (with_reducible exact ih1 _ _ _)
   | (with_reducible exact ih2 _ _ _)
   | (with_reducible exact LeO.refl _)
   | (with_reducible exact LeO.none _)
   | (with_reducible refine LeO.ite ?_ ?_)
   | (with_reducible refine LeO.bind ?_ (fun _ => ?_))
   | exact ih0 _ _ _
   | exact ih1 _ _ _
   | exact ih2 _ _ _
   | exact LeO.none _
   | refine LeO.ite ?_ ?_
   | refine LeO.bind ?_ (fun _ => ?_)
theorem shelfmarkref12_Check.mono : ∀ a0 a1 k, LeO (shelfmarkref12_Check.f k a0 a1) (shelfmarkref12_Check.f (k + 1) a0 a1) := by
 intro a0 a1 k
 obtain ⟨ih0, ih1, ih2⟩ := shelfmarkref12_Check.mono_l k
 unfold shelfmarkref12_Check.f
 repeat' first
   | (with_reducible exact ih0 _ _ _)
   | (with_reducible exact ih1 _ _ _)
   | (with_reducible exact ih2 _ _ _)
   | (with_reducible exact LeO.refl _)
   | (with_reducible exact LeO.none _)
   | (with_reducible refine LeO.ite ?_ ?_)
   | (with_reducible refine LeO.bind ?_ (fun _ => ?_))
   | exact ih0 _ _ _
   | exact ih1 _ _ _
   | exact ih2 _ _ _
   | exact LeO.none _
   | refine LeO.ite ?_ ?_
   | refine LeO.bind ?_ (fun _ => ?_)
set_option maxHeartbeats 8000000 in
set_option maxRecDepth 100000 in
theorem shelfmarkref12_Check.calls (k : Nat) (a0_0 : Int) (A0_1 : Option Addr) (c0_1 : Nat) (l0_1 : List (S46)) (r : Int) (w : World) (hr0_1 : Kd.C k46 w A0_1 l0_1.length l0_1) (hc0_1 : l0_1.length ≤ c0_1) (h : shelfmarkref12_Check.f k a0_0 l0_1 = some r) :
  Calls Try.prog 18 #[.agg #[.int .i64 a0_0, .slice A0_1 l0_1.length c0_1]] w fun e w' => e = .returned (.int .i64 r) ∧ Below w.heap.size w w' := by
 have hu24 := Try.underlying24
 have hu46 := Try.underlying46
 have HR0_1 := Aside0.mk hr0_1
 have HC0_1 := Aside0.mk hc0_1
 clear hr0_1 hc0_1
 have HB := Aside0.mk (Below.refl w.heap.size w)
 have H : (if a0_0 < 1 then (shelfmarkref12_Check.j0 k true a0_0 l0_1) else (shelfmarkref12_Check.j0 k (decide (a0_0 > 1099511627776)) a0_0 l0_1)) = some r := h
 clear h
 have HC2 := Aside0.mk H
 clear H
 go_enter Try.func18, Try.ntmps18
 go_upto_region 1 with (first | ((with_reducible refine gate_dst (N := 1) rfl ?_); (try (refine gate_guard (by rfl) ?_; dsimp only)); refine box_event ?hg (N := 1) ?hd (cs := #[.int .i64 a0_0, .slice A0_1 l0_1.length c0_1]) (t := 24) ?hr ?_; (case hd => rfl); (case hg => rfl); (case hr => first | (go_simp; done) | (go_simp; rfl)); intro gb211 hg w3 hbox hb; have n0_ := Aside0.mk (below_step (hL HB.out) hb); have n1_ := Aside0.mk (hbox); have n2_ := Above.mk ((by rw [hg]; exact (below_size (hL HB.out)) : w.heap.size ≤ gb211)); have n3_ := Above.mk ((by rw [hg]; exact (below_size (hL HB.out)) : w.heap.size ≤ gb211)); clear HB; have HB := n0_; have BK211 := n1_; have GW211 := n2_; have GE211 := n3_; clear n0_ n1_ n2_ n3_; clear hb hbox hg))
 repeat (go_quiet (first | ((with_reducible refine gate_dst (N := 1) rfl ?_); (try (refine gate_guard (by rfl) ?_; dsimp only)); refine box_event ?hg (N := 1) ?hd (cs := #[.int .i64 a0_0, .slice A0_1 l0_1.length c0_1]) (t := 24) ?hr ?_; (case hd => rfl); (case hg => rfl); (case hr => first | (go_simp; done) | (go_simp; rfl)); intro gb211 hg w3 hbox hb; have n0_ := Aside0.mk (below_step (hL HB.out) hb); have n1_ := Aside0.mk (hbox); have n2_ := Above.mk ((by rw [hg]; exact (below_size (hL HB.out)) : w.heap.size ≤ gb211)); have n3_ := Above.mk ((by rw [hg]; exact (below_size (hL HB.out)) : w.heap.size ≤ gb211)); clear HB; have HB := n0_; have BK211 := n1_; have GW211 := n2_; have GE211 := n3_; clear n0_ n1_ n2_ n3_; clear hb hbox hg)); go_upto_region 1 with (first | ((with_reducible refine gate_dst (N := 1) rfl ?_); (try (refine gate_guard (by rfl) ?_; dsimp only)); refine box_event ?hg (N := 1) ?hd (cs := #[.int .i64 a0_0, .slice A0_1 l0_1.length c0_1]) (t := 24) ?hr ?_; (case hd => rfl); (case hg => rfl); (case hr => first | (go_simp; done) | (go_simp; rfl)); intro gb211 hg w3 hbox hb; have n0_ := Aside0.mk (below_step (hL HB.out) hb); have n1_ := Aside0.mk (hbox); have n2_ := Above.mk ((by rw [hg]; exact (below_size (hL HB.out)) : w.heap.size ≤ gb211)); have n3_ := Above.mk ((by rw [hg]; exact (below_size (hL HB.out)) : w.heap.size ≤ gb211)); clear HB; have HB := n0_; have BK211 := n1_; have GW211 := n2_; have GE211 := n3_; clear n0_ n1_ n2_ n3_; clear hb hbox hg)))
 (try simp only [Act.put, sT, sZ, sS])
 go_cut [12] (fun v12 wc => ∃ (kq : Nat) (x12_1 : Bool), v12 = .bool x12_1 ∧ Aside0 (shelfmarkref12_Check.j0 kq x12_1 a0_0 l0_1 = some r) ∧ Aside0 (kq ≤ k) ∧ Aside0 (wc.heap[gb211]? = some (.cells #[.int .i64 a0_0, (.slice A0_1 l0_1.length c0_1)] 24 (0, 0))) ∧ Aside0 (Below w.heap.size w wc))
 case first =>
  have H := HC2.out
  clear HC2
  by_cases c4 : a0_0 < 1
  ·rw [if_pos c4] at H
   have c4b0 : decide (a0_0 < 1) = true := decide_eq_true c4
   clear c4
   (first | rw [c4b0] | (simp only [i64_w, i32_w]; rw [c4b0]) | skip)
   have H' := Aside0.mk H
   clear H
   have hcz5_0 : w3.cell? ⟨gb211, 0, none⟩ = some (.int .i64 a0_0) := (blk_cell BK211.out 0).trans rfl
   have hcz5_1 : w3.cell? ⟨gb211, 1, none⟩ = some (.slice A0_1 l0_1.length c0_1) := (blk_cell BK211.out 1).trans rfl
   have hfz5_0 := blk_frozen BK211.out 0
   have hfz5_1 := blk_frozen BK211.out 1
   go_wp2
   repeat (go_quiet (fail); try go_wp2)
   go_meet
   case rel => exact ⟨_, (true), (by first | rfl | (simp; done) | (simp [*]; done) | (simp [ne_nil_bytes]; done) | (simp [eq_nil_bytes]; done)), H', ⟨by first | omega | exact Nat.le_refl _⟩, ⟨by exact bL BK211.out⟩, ⟨hL HB.out⟩⟩
  rw [if_neg c4] at H
  have c4b0 : decide (a0_0 < 1) = false := decide_eq_false c4
  clear c4
  (first | rw [c4b0] | (simp only [i64_w, i32_w]; rw [c4b0]) | skip)
  have H' := Aside0.mk H
  clear H
  have hcz6_0 : w3.cell? ⟨gb211, 0, none⟩ = some (.int .i64 a0_0) := (blk_cell BK211.out 0).trans rfl
  have hcz6_1 : w3.cell? ⟨gb211, 1, none⟩ = some (.slice A0_1 l0_1.length c0_1) := (blk_cell BK211.out 1).trans rfl
  have hfz6_0 := blk_frozen BK211.out 0
  have hfz6_1 := blk_frozen BK211.out 1
  go_wp2
  repeat (go_quiet (fail); try go_wp2)
  go_meet
  case rel => exact ⟨_, (decide (a0_0 > 1099511627776)), (by first | rfl | (simp; done) | (simp [*]; done) | (simp [ne_nil_bytes]; done) | (simp [eq_nil_bytes]; done)), H', ⟨by first | omega | exact Nat.le_refl _⟩, ⟨by exact bL BK211.out⟩, ⟨hL HB.out⟩⟩
 clear HC2
 try clear c1
 try clear p2
 try clear c4
 try clear c4b0
 try clear c4b0z
 try clear hcz5_0
 try clear hcz5_1
 try clear hcz6_0
 try clear hcz6_1
 try clear hfz5_0
 try clear hfz5_1
 try clear hfz6_0
 try clear hfz6_1
 obtain ⟨kq, x12_1, rfl, HA, HJ1, BK211, HB⟩ := hcut
 rcases kq with _ | kj1
 ·exact absurd HA.out (by simp [shelfmarkref12_Check.j0])
 have H := HA.out
 clear HA
 simp only [shelfmarkref12_Check.j0] at H
 by_cases c7 : x12_1 = true
 ·subst c7
  have H1 : (some 1) = some r := by rw [if_pos rfl] at H; exact H
  clear H
  have H := H1
  clear H1
  obtain rfl := Option.some.inj H
  simp only [Option.some.injEq, Prod.mk.injEq] at H
  obtain ⟨rfl⟩ := H
  go_wp2
  repeat (go_quiet (fail); try go_wp2)
  go_ret
  exact ⟨by first | rfl | (simp [errW_none, errW_some] <;> rfl) | (simp [*, errW_none, errW_some] <;> rfl), hL HB.out⟩
 replace c7 := Bool.eq_false_iff.mpr c7
 subst c7
 have H1 : (if (l0_1.length : Int) < 1 then (shelfmarkref12_Check.j1 kj1 true a0_0 l0_1) else (if (l0_1.length : Int) > 8 then (shelfmarkref12_Check.j1 kj1 true a0_0 l0_1) else (if 0 < (l0_1.length : Int) then (shelfmarkref12_Check.j1 kj1 (((rd_T46 l0_1 0).f0).toList != ([] : List UInt8)) a0_0 l0_1) else (none)))) = some r := by rw [if_neg (show ¬ (false = true) by decide)] at H; exact H
 clear H
 have H := H1
 clear H1
 have HC8 := Aside0.mk H
 clear H
 go_upto_region 3 with (fail)
 repeat (go_quiet (fail); go_upto_region 3 with (fail))
 go_cut [30] (fun v30 wc => ∃ (kq : Nat) (x30_7 : Bool), v30 = .bool x30_7 ∧ Aside0 (shelfmarkref12_Check.j1 kq x30_7 a0_0 l0_1 = some r) ∧ Aside0 (kq ≤ kj1) ∧ Aside0 (wc.heap[gb211]? = some (.cells #[.int .i64 a0_0, (.slice A0_1 l0_1.length c0_1)] 24 (0, 0))) ∧ Aside0 (Below w.heap.size w wc))
 case first =>
  have H := HC8.out
  clear HC8
  by_cases c9 : (l0_1.length : Int) < 1
  ·rw [if_pos c9] at H
   have c9b0 : decide ((l0_1.length : Int) < 1) = true := decide_eq_true c9
   have c9b1 : decide (l0_1.length < 1) = true := decide_eq_true (by omega)
   clear c9
   (first | rw [c9b0] | (simp only [i64_w, i32_w]; rw [c9b0]) | skip)
   have H' := Aside0.mk H
   clear H
   have hcz10_0 : wc.cell? ⟨gb211, 0, none⟩ = some (.int .i64 a0_0) := (blk_cell BK211.out 0).trans rfl
   have hcz10_1 : wc.cell? ⟨gb211, 1, none⟩ = some (.slice A0_1 l0_1.length c0_1) := (blk_cell BK211.out 1).trans rfl
   have hfz10_0 := blk_frozen BK211.out 0
   have hfz10_1 := blk_frozen BK211.out 1
   go_wp2
   repeat (go_quiet (fail); try go_wp2)
   go_meet
   case rel => exact ⟨_, (true), (by first | rfl | (simp; done) | (simp [*]; done) | (simp [ne_nil_bytes]; done) | (simp [eq_nil_bytes]; done)), H', ⟨by have := HJ1.out; first | omega | exact Nat.le_refl _⟩, ⟨by exact bL BK211.out⟩, ⟨hL HB.out⟩⟩
  rw [if_neg c9] at H
  have c9b0 : decide ((l0_1.length : Int) < 1) = false := decide_eq_false c9
  have c9b1 : decide (l0_1.length < 1) = false := decide_eq_false (by omega)
  clear c9
  (first | rw [c9b0] | (simp only [i64_w, i32_w]; rw [c9b0]) | skip)
  by_cases c11 : (l0_1.length : Int) > 8
  ·rw [if_pos c11] at H
   have c11b0 : decide (8 < (l0_1.length : Int)) = true := decide_eq_true c11
   have c11b1 : decide (8 < l0_1.length) = true := decide_eq_true (by omega)
   clear c11
   have H' := Aside0.mk H
   clear H
   have hcz12_0 : wc.cell? ⟨gb211, 0, none⟩ = some (.int .i64 a0_0) := (blk_cell BK211.out 0).trans rfl
   have hcz12_1 : wc.cell? ⟨gb211, 1, none⟩ = some (.slice A0_1 l0_1.length c0_1) := (blk_cell BK211.out 1).trans rfl
   have hfz12_0 := blk_frozen BK211.out 0
   have hfz12_1 := blk_frozen BK211.out 1
   go_wp2
   repeat (go_quiet (fail); try go_wp2)
   go_meet
   case rel => exact ⟨_, (true), (by first | rfl | (simp; done) | (simp [*]; done) | (simp [ne_nil_bytes]; done) | (simp [eq_nil_bytes]; done)), H', ⟨by have := HJ1.out; first | omega | exact Nat.le_refl _⟩, ⟨by exact bL BK211.out⟩, ⟨hL HB.out⟩⟩
  rw [if_neg c11] at H
  have c11b0 : decide (8 < (l0_1.length : Int)) = false := decide_eq_false c11
  have c11b1 : decide (8 < l0_1.length) = false := decide_eq_false (by omega)
  clear c11
  by_cases c13 : 0 < (l0_1.length : Int)
  rotate_left
  ·rw [if_neg c13] at H
   exact absurd H (by simp)
  rw [if_pos c13] at H
  have c13b0 : decide (0 < (l0_1.length : Int)) = true := decide_eq_true c13
  have c13b1 : decide (0 < l0_1.length) = true := decide_eq_true (by omega)
  clear c13
  have H' := Aside0.mk H
  clear H
  have hcz14_0 : wc.cell? ⟨gb211, 0, none⟩ = some (.int .i64 a0_0) := (blk_cell BK211.out 0).trans rfl
  have hcz14_1 : wc.cell? ⟨gb211, 1, none⟩ = some (.slice A0_1 l0_1.length c0_1) := (blk_cell BK211.out 1).trans rfl
  have hfz14_0 := blk_frozen BK211.out 0
  have hfz14_1 := blk_frozen BK211.out 1
  have p212 : 0 ≤ (0 : Int) := (by omega)
  have q212 : 0 < (l0_1.length : Int) := of_decide_eq_true (by first | (with_reducible assumption) | assumption)
  obtain ⟨ad212, e212, hx212_0, hx212_1⟩ := at_T46 HR0_1.out 0 p212 q212
  cases e212
  have qi212 : (0 < l0_1.length) = True := eq_true (by omega)
  (try rw [show ((0 : Int)).toNat = 0 from rfl] at hx212_0)
  (try rw [show 0 * 2 = 0 from rfl] at hx212_0)
  (try rw [Addr.add_zero'] at hx212_0)
  (try rw [show ((0 : Int)).toNat = 0 from rfl] at hx212_1)
  (try rw [show 0 * 2 = 0 from rfl] at hx212_1)
  (try rw [Addr.add_zero'] at hx212_1)
  replace hx212_0 := (HB.out.cell (World.block_lt_of_cell? w _ hx212_0)).trans hx212_0
  replace hx212_1 := (HB.out.cell (World.block_lt_of_cell? w _ hx212_1)).trans hx212_1
  replace p212 := eq_true p212
  replace q212 := eq_true q212
  go_wp2
  repeat (go_quiet (fail); try go_wp2)
  go_meet
  case rel => exact ⟨_, ((((rd_T46 l0_1 0).f0).toList != ([] : List UInt8))), (by first | rfl | (simp; done) | (simp [*]; done) | (simp [ne_nil_bytes]; done) | (simp [eq_nil_bytes]; done)), H', ⟨by have := HJ1.out; first | omega | exact Nat.le_refl _⟩, ⟨by exact bL BK211.out⟩, ⟨hL HB.out⟩⟩
 clear HC8
 try clear c1
 try clear p2
 try clear q2
 try clear hx2
 try clear qi2
 try clear c4
 try clear c4b0
 try clear c4b0z
 try clear c7
 try clear c9
 try clear c9b0
 try clear c9b0z
 try clear c9b1
 try clear c9b1z
 try clear c11
 try clear c11b0
 try clear c11b0z
 try clear c11b1
 try clear c11b1z
 try clear c13
 try clear c13b0
 try clear c13b0z
 try clear c13b1
 try clear c13b1z
 try clear hcz10_0
 try clear hcz10_1
 try clear hcz12_0
 try clear hcz12_1
 try clear hcz14_0
 try clear hcz14_1
 try clear hcz5_0
 try clear hcz5_1
 try clear hcz6_0
 try clear hcz6_1
 try clear hfz10_0
 try clear hfz10_1
 try clear hfz12_0
 try clear hfz12_1
 try clear hfz14_0
 try clear hfz14_1
 try clear hfz5_0
 try clear hfz5_1
 try clear hfz6_0
 try clear hfz6_1
 try clear hx212_0
 try clear hx212_1
 try clear p2
 try clear p212
 try clear q212
 obtain ⟨kq, x30_7, rfl, HA, HJ7, BK211, HB⟩ := hcut
 rcases kq with _ | kj7
 ·exact absurd HA.out (by simp [shelfmarkref12_Check.j1])
 have H := HA.out
 clear HA
 simp only [shelfmarkref12_Check.j1] at H
 by_cases c15 : x30_7 = true
 ·subst c15
  have H1 : (some 14) = some r := by rw [if_pos rfl] at H; exact H
  clear H
  have H := H1
  clear H1
  obtain rfl := Option.some.inj H
  simp only [Option.some.injEq, Prod.mk.injEq] at H
  obtain ⟨rfl⟩ := H
  go_wp2
  repeat (go_quiet (fail); try go_wp2)
  go_ret
  exact ⟨by first | rfl | (simp [errW_none, errW_some] <;> rfl) | (simp [*, errW_none, errW_some] <;> rfl), hL HB.out⟩
 replace c15 := Bool.eq_false_iff.mpr c15
 subst c15
 have H1 : (shelfmarkref12_Check.l0 kj7 0 a0_0 l0_1) = some r := by rw [if_neg (show ¬ (false = true) by decide)] at H; exact H
 clear H
 have H := H1
 clear H1
 have H' := Aside0.mk H
 clear H
 go_wp2
 repeat (go_quiet (fail); try go_wp2)
 go_loopg [3] kj7 (fun kq v3 w' => ∃ (x3_3 : Int), v3 = .int .i64 x3_3 ∧ Aside0 (shelfmarkref12_Check.l0 kq x3_3 a0_0 l0_1 = some r) ∧ Aside0 (kq ≤ kj7) ∧ Aside0 (w'.heap[gb211]? = some (.cells #[.int .i64 a0_0, (.slice A0_1 l0_1.length c0_1)] 24 (0, 0))) ∧ Aside0 (Below w.heap.size w w'))
 case atStart => exact ⟨(0), (by first | rfl | (simp; done) | (simp [*]; done) | (simp [ne_nil_bytes]; done) | (simp [eq_nil_bytes]; done)), H', ⟨Nat.le_refl _⟩, ⟨by exact bL BK211.out⟩, ⟨hL HB.out⟩⟩
 clear H'
 try clear c1
 try clear p2
 try clear q2
 try clear hx2
 try clear qi2
 try clear c4
 try clear c4b0
 try clear c4b0z
 try clear c7
 try clear c9
 try clear c9b0
 try clear c9b0z
 try clear c9b1
 try clear c9b1z
 try clear c11
 try clear c11b0
 try clear c11b0z
 try clear c11b1
 try clear c11b1z
 try clear c13
 try clear c13b0
 try clear c13b0z
 try clear c13b1
 try clear c13b1z
 try clear c15
 try clear hcz10_0
 try clear hcz10_1
 try clear hcz12_0
 try clear hcz12_1
 try clear hcz14_0
 try clear hcz14_1
 try clear hcz5_0
 try clear hcz5_1
 try clear hcz6_0
 try clear hcz6_1
 try clear hfz10_0
 try clear hfz10_1
 try clear hfz12_0
 try clear hfz12_1
 try clear hfz14_0
 try clear hfz14_1
 try clear hfz5_0
 try clear hfz5_1
 try clear hfz6_0
 try clear hfz6_1
 try clear hx212_0
 try clear hx212_1
 try clear p2
 try clear p212
 try clear q2
 try clear q212
 obtain ⟨x3_3, rfl, HA, HK3, BK211, HB⟩ := hrel
 rcases gk with _ | k3
 ·exact absurd HA.out (by simp [shelfmarkref12_Check.l0])
 have H := HA.out
 clear HA
 simp only [shelfmarkref12_Check.l0] at H
 by_cases c16 : x3_3 < (l0_1.length : Int)
 rotate_left
 ·rw [if_neg c16] at H
  have c16b0 : decide (x3_3 < (l0_1.length : Int)) = false := decide_eq_false c16
  clear c16
  obtain rfl := Option.some.inj H
  simp only [Option.some.injEq, Prod.mk.injEq] at H
  obtain ⟨rfl⟩ := H
  have hcz52_0 : wr.cell? ⟨gb211, 0, none⟩ = some (.int .i64 a0_0) := (blk_cell BK211.out 0).trans rfl
  have hcz52_1 : wr.cell? ⟨gb211, 1, none⟩ = some (.slice A0_1 l0_1.length c0_1) := (blk_cell BK211.out 1).trans rfl
  have hfz52_0 := blk_frozen BK211.out 0
  have hfz52_1 := blk_frozen BK211.out 1
  go_wp2
  repeat (go_quiet (fail); try go_wp2)
  go_ret
  exact ⟨by first | rfl | (simp [errW_none, errW_some] <;> rfl) | (simp [*, errW_none, errW_some] <;> rfl), hL HB.out⟩
 rw [if_pos c16] at H
 have c16b0 : decide (x3_3 < (l0_1.length : Int)) = true := decide_eq_true c16
 clear c16
 by_cases c17 : 0 ≤ x3_3
 rotate_left
 ·rw [if_neg c17] at H
  exact absurd H (by simp)
 rw [if_pos c17] at H
 have c17b0 : decide (0 ≤ x3_3) = true := decide_eq_true c17
 clear c17
 by_cases c18 : ((rd_T46 l0_1 x3_3).f1) < 1
 ·rw [if_pos c18] at H
  have c18b0 : decide (((rd_T46 l0_1 x3_3).f1) < 1) = true := decide_eq_true c18
  clear c18
  obtain rfl := Option.some.inj H
  simp only [Option.some.injEq, Prod.mk.injEq] at H
  obtain ⟨rfl⟩ := H
  have hcz19_0 : wr.cell? ⟨gb211, 0, none⟩ = some (.int .i64 a0_0) := (blk_cell BK211.out 0).trans rfl
  have hcz19_1 : wr.cell? ⟨gb211, 1, none⟩ = some (.slice A0_1 l0_1.length c0_1) := (blk_cell BK211.out 1).trans rfl
  have hfz19_0 := blk_frozen BK211.out 0
  have hfz19_1 := blk_frozen BK211.out 1
  have p213 : 0 ≤ (x3_3 : Int) := of_decide_eq_true (by first | (with_reducible assumption) | assumption)
  have q213 : x3_3 < (l0_1.length : Int) := of_decide_eq_true (by first | (with_reducible assumption) | assumption)
  obtain ⟨ad213, e213, hx213_0, hx213_1⟩ := at_T46 HR0_1.out x3_3 p213 q213
  cases e213
  replace hx213_0 := (HB.out.cell (World.block_lt_of_cell? w _ hx213_0)).trans hx213_0
  replace hx213_1 := (HB.out.cell (World.block_lt_of_cell? w _ hx213_1)).trans hx213_1
  replace p213 := eq_true p213
  replace q213 := eq_true q213
  go_wp2_with (first | ((with_reducible refine gate_dst (N := 4) rfl ?_); (try (refine gate_guard (by rfl) ?_; dsimp only)); refine box_event ?hg (N := 4) ?hd (cs := #[.string (⟨#[]⟩ : ByteArray), .int .i64 0]) (t := 46) ?hr ?_; (case hd => rfl); (case hg => rfl); (case hr => first | (go_simp; done) | (go_simp; rfl)); intro gb214 hg w20 hbox hb; have n0_ := Aside0.mk (blk_below BK211.out hb); have n1_ := Aside0.mk (below_step (hL HB.out) hb); have n2_ := Aside0.mk (hbox); have n3_ := Above.mk ((by rw [hg]; exact (below_size (hL HB.out)) : w.heap.size ≤ gb214)); have n4_ := Above.mk ((by rw [hg]; exact (below_size (hL HB.out)) : w.heap.size ≤ gb214)); have n5_ := Aside0.mk ((by rw [hg]; exact Nat.ne_of_lt (blk_lt (g := gb211) (o := .cells #[.int .i64 a0_0, .slice (some ad213) l0_1.length c0_1] 24 (0, 0)) (bL BK211.out)) : gb211 ≠ gb214)); have n6_ := Aside0.mk ((by rw [hg]; exact Nat.ne_of_gt (blk_lt (g := gb211) (o := .cells #[.int .i64 a0_0, .slice (some ad213) l0_1.length c0_1] 24 (0, 0)) (bL BK211.out)) : gb214 ≠ gb211)); clear BK211; clear HB; have BK211 := n0_; have HB := n1_; have BK214 := n2_; have GW214 := n3_; have GE214 := n4_; have NB211_214 := n5_; have NB214_211 := n6_; clear n0_ n1_ n2_ n3_ n4_ n5_ n6_; clear hb hbox hg; have hnb21 := NB214_211.out; have hnc21 := NB211_214.out; have hcz22_0 : w20.cell? ⟨gb214, 0, none⟩ = some (.string (⟨#[]⟩ : ByteArray)) := (blk_cell BK214.out 0).trans rfl; have hcz22_1 : w20.cell? ⟨gb214, 1, none⟩ = some (.int .i64 0) := (blk_cell BK214.out 1).trans rfl; have hfz22_0 := blk_frozen BK214.out 0; have hfz22_1 := blk_frozen BK214.out 1))
  repeat (go_quiet (first | ((with_reducible refine gate_dst (N := 4) rfl ?_); (try (refine gate_guard (by rfl) ?_; dsimp only)); refine box_event ?hg (N := 4) ?hd (cs := #[.string (⟨#[]⟩ : ByteArray), .int .i64 0]) (t := 46) ?hr ?_; (case hd => rfl); (case hg => rfl); (case hr => first | (go_simp; done) | (go_simp; rfl)); intro gb214 hg w20 hbox hb; have n0_ := Aside0.mk (blk_below BK211.out hb); have n1_ := Aside0.mk (below_step (hL HB.out) hb); have n2_ := Aside0.mk (hbox); have n3_ := Above.mk ((by rw [hg]; exact (below_size (hL HB.out)) : w.heap.size ≤ gb214)); have n4_ := Above.mk ((by rw [hg]; exact (below_size (hL HB.out)) : w.heap.size ≤ gb214)); have n5_ := Aside0.mk ((by rw [hg]; exact Nat.ne_of_lt (blk_lt (g := gb211) (o := .cells #[.int .i64 a0_0, .slice (some ad213) l0_1.length c0_1] 24 (0, 0)) (bL BK211.out)) : gb211 ≠ gb214)); have n6_ := Aside0.mk ((by rw [hg]; exact Nat.ne_of_gt (blk_lt (g := gb211) (o := .cells #[.int .i64 a0_0, .slice (some ad213) l0_1.length c0_1] 24 (0, 0)) (bL BK211.out)) : gb214 ≠ gb211)); clear BK211; clear HB; have BK211 := n0_; have HB := n1_; have BK214 := n2_; have GW214 := n3_; have GE214 := n4_; have NB211_214 := n5_; have NB214_211 := n6_; clear n0_ n1_ n2_ n3_ n4_ n5_ n6_; clear hb hbox hg; have hnb21 := NB214_211.out; have hnc21 := NB211_214.out; have hcz22_0 : w20.cell? ⟨gb214, 0, none⟩ = some (.string (⟨#[]⟩ : ByteArray)) := (blk_cell BK214.out 0).trans rfl; have hcz22_1 : w20.cell? ⟨gb214, 1, none⟩ = some (.int .i64 0) := (blk_cell BK214.out 1).trans rfl; have hfz22_0 := blk_frozen BK214.out 0; have hfz22_1 := blk_frozen BK214.out 1)); try go_wp2_with (first | ((with_reducible refine gate_dst (N := 4) rfl ?_); (try (refine gate_guard (by rfl) ?_; dsimp only)); refine box_event ?hg (N := 4) ?hd (cs := #[.string (⟨#[]⟩ : ByteArray), .int .i64 0]) (t := 46) ?hr ?_; (case hd => rfl); (case hg => rfl); (case hr => first | (go_simp; done) | (go_simp; rfl)); intro gb214 hg w20 hbox hb; have n0_ := Aside0.mk (blk_below BK211.out hb); have n1_ := Aside0.mk (below_step (hL HB.out) hb); have n2_ := Aside0.mk (hbox); have n3_ := Above.mk ((by rw [hg]; exact (below_size (hL HB.out)) : w.heap.size ≤ gb214)); have n4_ := Above.mk ((by rw [hg]; exact (below_size (hL HB.out)) : w.heap.size ≤ gb214)); have n5_ := Aside0.mk ((by rw [hg]; exact Nat.ne_of_lt (blk_lt (g := gb211) (o := .cells #[.int .i64 a0_0, .slice (some ad213) l0_1.length c0_1] 24 (0, 0)) (bL BK211.out)) : gb211 ≠ gb214)); have n6_ := Aside0.mk ((by rw [hg]; exact Nat.ne_of_gt (blk_lt (g := gb211) (o := .cells #[.int .i64 a0_0, .slice (some ad213) l0_1.length c0_1] 24 (0, 0)) (bL BK211.out)) : gb214 ≠ gb211)); clear BK211; clear HB; have BK211 := n0_; have HB := n1_; have BK214 := n2_; have GW214 := n3_; have GE214 := n4_; have NB211_214 := n5_; have NB214_211 := n6_; clear n0_ n1_ n2_ n3_ n4_ n5_ n6_; clear hb hbox hg; have hnb21 := NB214_211.out; have hnc21 := NB211_214.out; have hcz22_0 : w20.cell? ⟨gb214, 0, none⟩ = some (.string (⟨#[]⟩ : ByteArray)) := (blk_cell BK214.out 0).trans rfl; have hcz22_1 : w20.cell? ⟨gb214, 1, none⟩ = some (.int .i64 0) := (blk_cell BK214.out 1).trans rfl; have hfz22_0 := blk_frozen BK214.out 0; have hfz22_1 := blk_frozen BK214.out 1)))
  go_ret
  exact ⟨by first | rfl | (simp [errW_none, errW_some] <;> rfl) | (simp [*, errW_none, errW_some] <;> rfl), hL HB.out⟩
 rw [if_neg c18] at H
 have c18b0 : decide (((rd_T46 l0_1 x3_3).f1) < 1) = false := decide_eq_false c18
 clear c18
 by_cases c23 : ((rd_T46 l0_1 x3_3).f1) > 4
 ·rw [if_pos c23] at H
  have c23b0 : decide (4 < ((rd_T46 l0_1 x3_3).f1)) = true := decide_eq_true c23
  clear c23
  obtain rfl := Option.some.inj H
  simp only [Option.some.injEq, Prod.mk.injEq] at H
  obtain ⟨rfl⟩ := H
  have hcz24_0 : wr.cell? ⟨gb211, 0, none⟩ = some (.int .i64 a0_0) := (blk_cell BK211.out 0).trans rfl
  have hcz24_1 : wr.cell? ⟨gb211, 1, none⟩ = some (.slice A0_1 l0_1.length c0_1) := (blk_cell BK211.out 1).trans rfl
  have hfz24_0 := blk_frozen BK211.out 0
  have hfz24_1 := blk_frozen BK211.out 1
  have p213 : 0 ≤ (x3_3 : Int) := of_decide_eq_true (by first | (with_reducible assumption) | assumption)
  have q213 : x3_3 < (l0_1.length : Int) := of_decide_eq_true (by first | (with_reducible assumption) | assumption)
  obtain ⟨ad213, e213, hx213_0, hx213_1⟩ := at_T46 HR0_1.out x3_3 p213 q213
  cases e213
  replace hx213_0 := (HB.out.cell (World.block_lt_of_cell? w _ hx213_0)).trans hx213_0
  replace hx213_1 := (HB.out.cell (World.block_lt_of_cell? w _ hx213_1)).trans hx213_1
  replace p213 := eq_true p213
  replace q213 := eq_true q213
  go_wp2_with (first | ((with_reducible refine gate_dst (N := 4) rfl ?_); (try (refine gate_guard (by rfl) ?_; dsimp only)); refine box_event ?hg (N := 4) ?hd (cs := #[.string (⟨#[]⟩ : ByteArray), .int .i64 0]) (t := 46) ?hr ?_; (case hd => rfl); (case hg => rfl); (case hr => first | (go_simp; done) | (go_simp; rfl)); intro gb214 hg w25 hbox hb; have n0_ := Aside0.mk (blk_below BK211.out hb); have n1_ := Aside0.mk (below_step (hL HB.out) hb); have n2_ := Aside0.mk (hbox); have n3_ := Above.mk ((by rw [hg]; exact (below_size (hL HB.out)) : w.heap.size ≤ gb214)); have n4_ := Above.mk ((by rw [hg]; exact (below_size (hL HB.out)) : w.heap.size ≤ gb214)); have n5_ := Aside0.mk ((by rw [hg]; exact Nat.ne_of_lt (blk_lt (g := gb211) (o := .cells #[.int .i64 a0_0, .slice (some ad213) l0_1.length c0_1] 24 (0, 0)) (bL BK211.out)) : gb211 ≠ gb214)); have n6_ := Aside0.mk ((by rw [hg]; exact Nat.ne_of_gt (blk_lt (g := gb211) (o := .cells #[.int .i64 a0_0, .slice (some ad213) l0_1.length c0_1] 24 (0, 0)) (bL BK211.out)) : gb214 ≠ gb211)); clear BK211; clear HB; have BK211 := n0_; have HB := n1_; have BK214 := n2_; have GW214 := n3_; have GE214 := n4_; have NB211_214 := n5_; have NB214_211 := n6_; clear n0_ n1_ n2_ n3_ n4_ n5_ n6_; clear hb hbox hg; have hnb26 := NB214_211.out; have hnc26 := NB211_214.out; have hcz27_0 : w25.cell? ⟨gb214, 0, none⟩ = some (.string (⟨#[]⟩ : ByteArray)) := (blk_cell BK214.out 0).trans rfl; have hcz27_1 : w25.cell? ⟨gb214, 1, none⟩ = some (.int .i64 0) := (blk_cell BK214.out 1).trans rfl; have hfz27_0 := blk_frozen BK214.out 0; have hfz27_1 := blk_frozen BK214.out 1))
  repeat (go_quiet (first | ((with_reducible refine gate_dst (N := 4) rfl ?_); (try (refine gate_guard (by rfl) ?_; dsimp only)); refine box_event ?hg (N := 4) ?hd (cs := #[.string (⟨#[]⟩ : ByteArray), .int .i64 0]) (t := 46) ?hr ?_; (case hd => rfl); (case hg => rfl); (case hr => first | (go_simp; done) | (go_simp; rfl)); intro gb214 hg w25 hbox hb; have n0_ := Aside0.mk (blk_below BK211.out hb); have n1_ := Aside0.mk (below_step (hL HB.out) hb); have n2_ := Aside0.mk (hbox); have n3_ := Above.mk ((by rw [hg]; exact (below_size (hL HB.out)) : w.heap.size ≤ gb214)); have n4_ := Above.mk ((by rw [hg]; exact (below_size (hL HB.out)) : w.heap.size ≤ gb214)); have n5_ := Aside0.mk ((by rw [hg]; exact Nat.ne_of_lt (blk_lt (g := gb211) (o := .cells #[.int .i64 a0_0, .slice (some ad213) l0_1.length c0_1] 24 (0, 0)) (bL BK211.out)) : gb211 ≠ gb214)); have n6_ := Aside0.mk ((by rw [hg]; exact Nat.ne_of_gt (blk_lt (g := gb211) (o := .cells #[.int .i64 a0_0, .slice (some ad213) l0_1.length c0_1] 24 (0, 0)) (bL BK211.out)) : gb214 ≠ gb211)); clear BK211; clear HB; have BK211 := n0_; have HB := n1_; have BK214 := n2_; have GW214 := n3_; have GE214 := n4_; have NB211_214 := n5_; have NB214_211 := n6_; clear n0_ n1_ n2_ n3_ n4_ n5_ n6_; clear hb hbox hg; have hnb26 := NB214_211.out; have hnc26 := NB211_214.out; have hcz27_0 : w25.cell? ⟨gb214, 0, none⟩ = some (.string (⟨#[]⟩ : ByteArray)) := (blk_cell BK214.out 0).trans rfl; have hcz27_1 : w25.cell? ⟨gb214, 1, none⟩ = some (.int .i64 0) := (blk_cell BK214.out 1).trans rfl; have hfz27_0 := blk_frozen BK214.out 0; have hfz27_1 := blk_frozen BK214.out 1)); try go_wp2_with (first | ((with_reducible refine gate_dst (N := 4) rfl ?_); (try (refine gate_guard (by rfl) ?_; dsimp only)); refine box_event ?hg (N := 4) ?hd (cs := #[.string (⟨#[]⟩ : ByteArray), .int .i64 0]) (t := 46) ?hr ?_; (case hd => rfl); (case hg => rfl); (case hr => first | (go_simp; done) | (go_simp; rfl)); intro gb214 hg w25 hbox hb; have n0_ := Aside0.mk (blk_below BK211.out hb); have n1_ := Aside0.mk (below_step (hL HB.out) hb); have n2_ := Aside0.mk (hbox); have n3_ := Above.mk ((by rw [hg]; exact (below_size (hL HB.out)) : w.heap.size ≤ gb214)); have n4_ := Above.mk ((by rw [hg]; exact (below_size (hL HB.out)) : w.heap.size ≤ gb214)); have n5_ := Aside0.mk ((by rw [hg]; exact Nat.ne_of_lt (blk_lt (g := gb211) (o := .cells #[.int .i64 a0_0, .slice (some ad213) l0_1.length c0_1] 24 (0, 0)) (bL BK211.out)) : gb211 ≠ gb214)); have n6_ := Aside0.mk ((by rw [hg]; exact Nat.ne_of_gt (blk_lt (g := gb211) (o := .cells #[.int .i64 a0_0, .slice (some ad213) l0_1.length c0_1] 24 (0, 0)) (bL BK211.out)) : gb214 ≠ gb211)); clear BK211; clear HB; have BK211 := n0_; have HB := n1_; have BK214 := n2_; have GW214 := n3_; have GE214 := n4_; have NB211_214 := n5_; have NB214_211 := n6_; clear n0_ n1_ n2_ n3_ n4_ n5_ n6_; clear hb hbox hg; have hnb26 := NB214_211.out; have hnc26 := NB211_214.out; have hcz27_0 : w25.cell? ⟨gb214, 0, none⟩ = some (.string (⟨#[]⟩ : ByteArray)) := (blk_cell BK214.out 0).trans rfl; have hcz27_1 : w25.cell? ⟨gb214, 1, none⟩ = some (.int .i64 0) := (blk_cell BK214.out 1).trans rfl; have hfz27_0 := blk_frozen BK214.out 0; have hfz27_1 := blk_frozen BK214.out 1)))
  go_ret
  exact ⟨by first | rfl | (simp [errW_none, errW_some] <;> rfl) | (simp [*, errW_none, errW_some] <;> rfl), hL HB.out⟩
 rw [if_neg c23] at H
 have c23b0 : decide (4 < ((rd_T46 l0_1 x3_3).f1)) = false := decide_eq_false c23
 clear c23
 by_cases c28 : (((rd_T46 l0_1 x3_3).f0).size : Int) > 100
 ·rw [if_pos c28] at H
  have c28b0 : decide (100 < (((rd_T46 l0_1 x3_3).f0).size : Int)) = true := decide_eq_true c28
  have c28b1 : decide (100 < ((rd_T46 l0_1 x3_3).f0).size) = true := decide_eq_true (by omega)
  clear c28
  obtain rfl := Option.some.inj H
  simp only [Option.some.injEq, Prod.mk.injEq] at H
  obtain ⟨rfl⟩ := H
  have hcz29_0 : wr.cell? ⟨gb211, 0, none⟩ = some (.int .i64 a0_0) := (blk_cell BK211.out 0).trans rfl
  have hcz29_1 : wr.cell? ⟨gb211, 1, none⟩ = some (.slice A0_1 l0_1.length c0_1) := (blk_cell BK211.out 1).trans rfl
  have hfz29_0 := blk_frozen BK211.out 0
  have hfz29_1 := blk_frozen BK211.out 1
  have p213 : 0 ≤ (x3_3 : Int) := of_decide_eq_true (by first | (with_reducible assumption) | assumption)
  have q213 : x3_3 < (l0_1.length : Int) := of_decide_eq_true (by first | (with_reducible assumption) | assumption)
  obtain ⟨ad213, e213, hx213_0, hx213_1⟩ := at_T46 HR0_1.out x3_3 p213 q213
  cases e213
  replace hx213_0 := (HB.out.cell (World.block_lt_of_cell? w _ hx213_0)).trans hx213_0
  replace hx213_1 := (HB.out.cell (World.block_lt_of_cell? w _ hx213_1)).trans hx213_1
  replace p213 := eq_true p213
  replace q213 := eq_true q213
  go_wp2_with (first | ((with_reducible refine gate_dst (N := 4) rfl ?_); (try (refine gate_guard (by rfl) ?_; dsimp only)); refine box_event ?hg (N := 4) ?hd (cs := #[.string (⟨#[]⟩ : ByteArray), .int .i64 0]) (t := 46) ?hr ?_; (case hd => rfl); (case hg => rfl); (case hr => first | (go_simp; done) | (go_simp; rfl)); intro gb214 hg w30 hbox hb; have n0_ := Aside0.mk (blk_below BK211.out hb); have n1_ := Aside0.mk (below_step (hL HB.out) hb); have n2_ := Aside0.mk (hbox); have n3_ := Above.mk ((by rw [hg]; exact (below_size (hL HB.out)) : w.heap.size ≤ gb214)); have n4_ := Above.mk ((by rw [hg]; exact (below_size (hL HB.out)) : w.heap.size ≤ gb214)); have n5_ := Aside0.mk ((by rw [hg]; exact Nat.ne_of_lt (blk_lt (g := gb211) (o := .cells #[.int .i64 a0_0, .slice (some ad213) l0_1.length c0_1] 24 (0, 0)) (bL BK211.out)) : gb211 ≠ gb214)); have n6_ := Aside0.mk ((by rw [hg]; exact Nat.ne_of_gt (blk_lt (g := gb211) (o := .cells #[.int .i64 a0_0, .slice (some ad213) l0_1.length c0_1] 24 (0, 0)) (bL BK211.out)) : gb214 ≠ gb211)); clear BK211; clear HB; have BK211 := n0_; have HB := n1_; have BK214 := n2_; have GW214 := n3_; have GE214 := n4_; have NB211_214 := n5_; have NB214_211 := n6_; clear n0_ n1_ n2_ n3_ n4_ n5_ n6_; clear hb hbox hg; have hnb31 := NB214_211.out; have hnc31 := NB211_214.out; have hcz32_0 : w30.cell? ⟨gb214, 0, none⟩ = some (.string (⟨#[]⟩ : ByteArray)) := (blk_cell BK214.out 0).trans rfl; have hcz32_1 : w30.cell? ⟨gb214, 1, none⟩ = some (.int .i64 0) := (blk_cell BK214.out 1).trans rfl; have hfz32_0 := blk_frozen BK214.out 0; have hfz32_1 := blk_frozen BK214.out 1))
  repeat (go_quiet (first | ((with_reducible refine gate_dst (N := 4) rfl ?_); (try (refine gate_guard (by rfl) ?_; dsimp only)); refine box_event ?hg (N := 4) ?hd (cs := #[.string (⟨#[]⟩ : ByteArray), .int .i64 0]) (t := 46) ?hr ?_; (case hd => rfl); (case hg => rfl); (case hr => first | (go_simp; done) | (go_simp; rfl)); intro gb214 hg w30 hbox hb; have n0_ := Aside0.mk (blk_below BK211.out hb); have n1_ := Aside0.mk (below_step (hL HB.out) hb); have n2_ := Aside0.mk (hbox); have n3_ := Above.mk ((by rw [hg]; exact (below_size (hL HB.out)) : w.heap.size ≤ gb214)); have n4_ := Above.mk ((by rw [hg]; exact (below_size (hL HB.out)) : w.heap.size ≤ gb214)); have n5_ := Aside0.mk ((by rw [hg]; exact Nat.ne_of_lt (blk_lt (g := gb211) (o := .cells #[.int .i64 a0_0, .slice (some ad213) l0_1.length c0_1] 24 (0, 0)) (bL BK211.out)) : gb211 ≠ gb214)); have n6_ := Aside0.mk ((by rw [hg]; exact Nat.ne_of_gt (blk_lt (g := gb211) (o := .cells #[.int .i64 a0_0, .slice (some ad213) l0_1.length c0_1] 24 (0, 0)) (bL BK211.out)) : gb214 ≠ gb211)); clear BK211; clear HB; have BK211 := n0_; have HB := n1_; have BK214 := n2_; have GW214 := n3_; have GE214 := n4_; have NB211_214 := n5_; have NB214_211 := n6_; clear n0_ n1_ n2_ n3_ n4_ n5_ n6_; clear hb hbox hg; have hnb31 := NB214_211.out; have hnc31 := NB211_214.out; have hcz32_0 : w30.cell? ⟨gb214, 0, none⟩ = some (.string (⟨#[]⟩ : ByteArray)) := (blk_cell BK214.out 0).trans rfl; have hcz32_1 : w30.cell? ⟨gb214, 1, none⟩ = some (.int .i64 0) := (blk_cell BK214.out 1).trans rfl; have hfz32_0 := blk_frozen BK214.out 0; have hfz32_1 := blk_frozen BK214.out 1)); try go_wp2_with (first | ((with_reducible refine gate_dst (N := 4) rfl ?_); (try (refine gate_guard (by rfl) ?_; dsimp only)); refine box_event ?hg (N := 4) ?hd (cs := #[.string (⟨#[]⟩ : ByteArray), .int .i64 0]) (t := 46) ?hr ?_; (case hd => rfl); (case hg => rfl); (case hr => first | (go_simp; done) | (go_simp; rfl)); intro gb214 hg w30 hbox hb; have n0_ := Aside0.mk (blk_below BK211.out hb); have n1_ := Aside0.mk (below_step (hL HB.out) hb); have n2_ := Aside0.mk (hbox); have n3_ := Above.mk ((by rw [hg]; exact (below_size (hL HB.out)) : w.heap.size ≤ gb214)); have n4_ := Above.mk ((by rw [hg]; exact (below_size (hL HB.out)) : w.heap.size ≤ gb214)); have n5_ := Aside0.mk ((by rw [hg]; exact Nat.ne_of_lt (blk_lt (g := gb211) (o := .cells #[.int .i64 a0_0, .slice (some ad213) l0_1.length c0_1] 24 (0, 0)) (bL BK211.out)) : gb211 ≠ gb214)); have n6_ := Aside0.mk ((by rw [hg]; exact Nat.ne_of_gt (blk_lt (g := gb211) (o := .cells #[.int .i64 a0_0, .slice (some ad213) l0_1.length c0_1] 24 (0, 0)) (bL BK211.out)) : gb214 ≠ gb211)); clear BK211; clear HB; have BK211 := n0_; have HB := n1_; have BK214 := n2_; have GW214 := n3_; have GE214 := n4_; have NB211_214 := n5_; have NB214_211 := n6_; clear n0_ n1_ n2_ n3_ n4_ n5_ n6_; clear hb hbox hg; have hnb31 := NB214_211.out; have hnc31 := NB211_214.out; have hcz32_0 : w30.cell? ⟨gb214, 0, none⟩ = some (.string (⟨#[]⟩ : ByteArray)) := (blk_cell BK214.out 0).trans rfl; have hcz32_1 : w30.cell? ⟨gb214, 1, none⟩ = some (.int .i64 0) := (blk_cell BK214.out 1).trans rfl; have hfz32_0 := blk_frozen BK214.out 0; have hfz32_1 := blk_frozen BK214.out 1)))
  go_ret
  exact ⟨by first | rfl | (simp [errW_none, errW_some] <;> rfl) | (simp [*, errW_none, errW_some] <;> rfl), hL HB.out⟩
 rw [if_neg c28] at H
 have c28b0 : decide (100 < (((rd_T46 l0_1 x3_3).f0).size : Int)) = false := decide_eq_false c28
 have c28b1 : decide (100 < ((rd_T46 l0_1 x3_3).f0).size) = false := decide_eq_false (by omega)
 clear c28
 by_cases c33 : x3_3 > 0
 rotate_left
 ·rw [if_neg c33] at H
  have c33b0 : decide (0 < x3_3) = false := decide_eq_false c33
  clear c33
  have H' := Aside0.mk H
  clear H
  have hcz48_0 : wr.cell? ⟨gb211, 0, none⟩ = some (.int .i64 a0_0) := (blk_cell BK211.out 0).trans rfl
  have hcz48_1 : wr.cell? ⟨gb211, 1, none⟩ = some (.slice A0_1 l0_1.length c0_1) := (blk_cell BK211.out 1).trans rfl
  have hfz48_0 := blk_frozen BK211.out 0
  have hfz48_1 := blk_frozen BK211.out 1
  have p213 : 0 ≤ (x3_3 : Int) := of_decide_eq_true (by first | (with_reducible assumption) | assumption)
  have q213 : x3_3 < (l0_1.length : Int) := of_decide_eq_true (by first | (with_reducible assumption) | assumption)
  obtain ⟨ad213, e213, hx213_0, hx213_1⟩ := at_T46 HR0_1.out x3_3 p213 q213
  cases e213
  replace hx213_0 := (HB.out.cell (World.block_lt_of_cell? w _ hx213_0)).trans hx213_0
  replace hx213_1 := (HB.out.cell (World.block_lt_of_cell? w _ hx213_1)).trans hx213_1
  replace p213 := eq_true p213
  replace q213 := eq_true q213
  go_wp2_with (first | ((with_reducible refine gate_dst (N := 4) rfl ?_); (try (refine gate_guard (by rfl) ?_; dsimp only)); refine box_event ?hg (N := 4) ?hd (cs := #[.string (⟨#[]⟩ : ByteArray), .int .i64 0]) (t := 46) ?hr ?_; (case hd => rfl); (case hg => rfl); (case hr => first | (go_simp; done) | (go_simp; rfl)); intro gb214 hg w49 hbox hb; have n0_ := Aside0.mk (blk_below BK211.out hb); have n1_ := Aside0.mk (below_step (hL HB.out) hb); have n2_ := Aside0.mk (hbox); have n3_ := Above.mk ((by rw [hg]; exact (below_size (hL HB.out)) : w.heap.size ≤ gb214)); have n4_ := Above.mk ((by rw [hg]; exact (below_size (hL HB.out)) : w.heap.size ≤ gb214)); have n5_ := Aside0.mk ((by rw [hg]; exact Nat.ne_of_lt (blk_lt (g := gb211) (o := .cells #[.int .i64 a0_0, .slice (some ad213) l0_1.length c0_1] 24 (0, 0)) (bL BK211.out)) : gb211 ≠ gb214)); have n6_ := Aside0.mk ((by rw [hg]; exact Nat.ne_of_gt (blk_lt (g := gb211) (o := .cells #[.int .i64 a0_0, .slice (some ad213) l0_1.length c0_1] 24 (0, 0)) (bL BK211.out)) : gb214 ≠ gb211)); clear BK211; clear HB; have BK211 := n0_; have HB := n1_; have BK214 := n2_; have GW214 := n3_; have GE214 := n4_; have NB211_214 := n5_; have NB214_211 := n6_; clear n0_ n1_ n2_ n3_ n4_ n5_ n6_; clear hb hbox hg; have hnb50 := NB214_211.out; have hnc50 := NB211_214.out; have hcz51_0 : w49.cell? ⟨gb214, 0, none⟩ = some (.string (⟨#[]⟩ : ByteArray)) := (blk_cell BK214.out 0).trans rfl; have hcz51_1 : w49.cell? ⟨gb214, 1, none⟩ = some (.int .i64 0) := (blk_cell BK214.out 1).trans rfl; have hfz51_0 := blk_frozen BK214.out 0; have hfz51_1 := blk_frozen BK214.out 1))
  repeat (go_quiet (first | ((with_reducible refine gate_dst (N := 4) rfl ?_); (try (refine gate_guard (by rfl) ?_; dsimp only)); refine box_event ?hg (N := 4) ?hd (cs := #[.string (⟨#[]⟩ : ByteArray), .int .i64 0]) (t := 46) ?hr ?_; (case hd => rfl); (case hg => rfl); (case hr => first | (go_simp; done) | (go_simp; rfl)); intro gb214 hg w49 hbox hb; have n0_ := Aside0.mk (blk_below BK211.out hb); have n1_ := Aside0.mk (below_step (hL HB.out) hb); have n2_ := Aside0.mk (hbox); have n3_ := Above.mk ((by rw [hg]; exact (below_size (hL HB.out)) : w.heap.size ≤ gb214)); have n4_ := Above.mk ((by rw [hg]; exact (below_size (hL HB.out)) : w.heap.size ≤ gb214)); have n5_ := Aside0.mk ((by rw [hg]; exact Nat.ne_of_lt (blk_lt (g := gb211) (o := .cells #[.int .i64 a0_0, .slice (some ad213) l0_1.length c0_1] 24 (0, 0)) (bL BK211.out)) : gb211 ≠ gb214)); have n6_ := Aside0.mk ((by rw [hg]; exact Nat.ne_of_gt (blk_lt (g := gb211) (o := .cells #[.int .i64 a0_0, .slice (some ad213) l0_1.length c0_1] 24 (0, 0)) (bL BK211.out)) : gb214 ≠ gb211)); clear BK211; clear HB; have BK211 := n0_; have HB := n1_; have BK214 := n2_; have GW214 := n3_; have GE214 := n4_; have NB211_214 := n5_; have NB214_211 := n6_; clear n0_ n1_ n2_ n3_ n4_ n5_ n6_; clear hb hbox hg; have hnb50 := NB214_211.out; have hnc50 := NB211_214.out; have hcz51_0 : w49.cell? ⟨gb214, 0, none⟩ = some (.string (⟨#[]⟩ : ByteArray)) := (blk_cell BK214.out 0).trans rfl; have hcz51_1 : w49.cell? ⟨gb214, 1, none⟩ = some (.int .i64 0) := (blk_cell BK214.out 1).trans rfl; have hfz51_0 := blk_frozen BK214.out 0; have hfz51_1 := blk_frozen BK214.out 1)); try go_wp2_with (first | ((with_reducible refine gate_dst (N := 4) rfl ?_); (try (refine gate_guard (by rfl) ?_; dsimp only)); refine box_event ?hg (N := 4) ?hd (cs := #[.string (⟨#[]⟩ : ByteArray), .int .i64 0]) (t := 46) ?hr ?_; (case hd => rfl); (case hg => rfl); (case hr => first | (go_simp; done) | (go_simp; rfl)); intro gb214 hg w49 hbox hb; have n0_ := Aside0.mk (blk_below BK211.out hb); have n1_ := Aside0.mk (below_step (hL HB.out) hb); have n2_ := Aside0.mk (hbox); have n3_ := Above.mk ((by rw [hg]; exact (below_size (hL HB.out)) : w.heap.size ≤ gb214)); have n4_ := Above.mk ((by rw [hg]; exact (below_size (hL HB.out)) : w.heap.size ≤ gb214)); have n5_ := Aside0.mk ((by rw [hg]; exact Nat.ne_of_lt (blk_lt (g := gb211) (o := .cells #[.int .i64 a0_0, .slice (some ad213) l0_1.length c0_1] 24 (0, 0)) (bL BK211.out)) : gb211 ≠ gb214)); have n6_ := Aside0.mk ((by rw [hg]; exact Nat.ne_of_gt (blk_lt (g := gb211) (o := .cells #[.int .i64 a0_0, .slice (some ad213) l0_1.length c0_1] 24 (0, 0)) (bL BK211.out)) : gb214 ≠ gb211)); clear BK211; clear HB; have BK211 := n0_; have HB := n1_; have BK214 := n2_; have GW214 := n3_; have GE214 := n4_; have NB211_214 := n5_; have NB214_211 := n6_; clear n0_ n1_ n2_ n3_ n4_ n5_ n6_; clear hb hbox hg; have hnb50 := NB214_211.out; have hnc50 := NB211_214.out; have hcz51_0 : w49.cell? ⟨gb214, 0, none⟩ = some (.string (⟨#[]⟩ : ByteArray)) := (blk_cell BK214.out 0).trans rfl; have hcz51_1 : w49.cell? ⟨gb214, 1, none⟩ = some (.int .i64 0) := (blk_cell BK214.out 1).trans rfl; have hfz51_0 := blk_frozen BK214.out 0; have hfz51_1 := blk_frozen BK214.out 1)))
  go_roundg k3
  case measure => have := HJ1.out; have := HJ7.out; have := HK3.out; omega
  case rel => exact ⟨(wrap64 (x3_3 + 1)), (by first | rfl | (simp; done) | (simp [*]; done) | (simp [ne_nil_bytes]; done) | (simp [eq_nil_bytes]; done)), H', ⟨by have := HJ1.out; have := HJ7.out; have := HK3.out; omega⟩, ⟨by (with_reducible repeat (first | refine blk_drewN ?_ _ | refine blk_drew ?_ | refine blk_alloc ?_ _)); refine blk_far ?_ NB211_214.out _; (with_reducible repeat (first | refine blk_drewN ?_ _ | refine blk_drew ?_ | refine blk_alloc ?_ _)); refine blk_far ?_ NB211_214.out _; exact bL BK211.out⟩, ⟨hL HB.out⟩⟩
 rw [if_pos c33] at H
 have c33b0 : decide (0 < x3_3) = true := decide_eq_true c33
 clear c33
 obtain ⟨ji34, hji34⟩ : ∃ j_ : Int, (wrap64 (x3_3 - 1)) = j_ := ⟨_, rfl⟩
 replace H : (if 0 ≤ (ji34) then (if (ji34) < (l0_1.length : Int) then (if ((Op.bytesLess (((rd_T46 l0_1 (ji34)).f0).toList) (((rd_T46 l0_1 x3_3).f0).toList)) = true) then (shelfmarkref12_Check.l0 k3 (wrap64 (x3_3 + 1)) a0_0 l0_1) else (some 14)) else (none)) else (none)) = some r := by first | (rw [hji34] at H; exact H) | (simp only [hji34] at H ⊢; exact H)
 have hji34w : (IntKind.i64.wrap (x3_3 - 1)) = ji34 := (i64_w _).trans hji34
 by_cases c35 : 0 ≤ (ji34)
 rotate_left
 ·rw [if_neg c35] at H
  exact absurd H (by simp)
 rw [if_pos c35] at H
 have c35b0 : decide (0 ≤ (ji34)) = true := decide_eq_true c35
 clear c35
 by_cases c36 : (ji34) < (l0_1.length : Int)
 rotate_left
 ·rw [if_neg c36] at H
  exact absurd H (by simp)
 rw [if_pos c36] at H
 have c36b0 : decide ((ji34) < (l0_1.length : Int)) = true := decide_eq_true c36
 clear c36
 by_cases c37 : ((Op.bytesLess (((rd_T46 l0_1 (ji34)).f0).toList) (((rd_T46 l0_1 x3_3).f0).toList)) = true)
 rotate_left
 ·rw [if_neg c37] at H
  have c37b0 : (Op.bytesLess (((rd_T46 l0_1 (ji34)).f0).toList) (((rd_T46 l0_1 x3_3).f0).toList)) = false := by simpa using c37
  clear c37
  obtain rfl := Option.some.inj H
  simp only [Option.some.injEq, Prod.mk.injEq] at H
  obtain ⟨rfl⟩ := H
  have hcz43_0 : wr.cell? ⟨gb211, 0, none⟩ = some (.int .i64 a0_0) := (blk_cell BK211.out 0).trans rfl
  have hcz43_1 : wr.cell? ⟨gb211, 1, none⟩ = some (.slice A0_1 l0_1.length c0_1) := (blk_cell BK211.out 1).trans rfl
  have hfz43_0 := blk_frozen BK211.out 0
  have hfz43_1 := blk_frozen BK211.out 1
  have p213 : 0 ≤ (x3_3 : Int) := of_decide_eq_true (by first | (with_reducible assumption) | assumption)
  have q213 : x3_3 < (l0_1.length : Int) := of_decide_eq_true (by first | (with_reducible assumption) | assumption)
  obtain ⟨ad213, e213, hx213_0, hx213_1⟩ := at_T46 HR0_1.out x3_3 p213 q213
  cases e213
  replace hx213_0 := (HB.out.cell (World.block_lt_of_cell? w _ hx213_0)).trans hx213_0
  replace hx213_1 := (HB.out.cell (World.block_lt_of_cell? w _ hx213_1)).trans hx213_1
  replace p213 := eq_true p213
  replace q213 := eq_true q213
  go_wp2_with (first | ((with_reducible refine gate_dst (N := 4) rfl ?_); (try (refine gate_guard (by rfl) ?_; dsimp only)); refine box_event ?hg (N := 4) ?hd (cs := #[.string (⟨#[]⟩ : ByteArray), .int .i64 0]) (t := 46) ?hr ?_; (case hd => rfl); (case hg => rfl); (case hr => first | (go_simp; done) | (go_simp; rfl)); intro gb214 hg w44 hbox hb; have n0_ := Aside0.mk (blk_below BK211.out hb); have n1_ := Aside0.mk (below_step (hL HB.out) hb); have n2_ := Aside0.mk (hbox); have n3_ := Above.mk ((by rw [hg]; exact (below_size (hL HB.out)) : w.heap.size ≤ gb214)); have n4_ := Above.mk ((by rw [hg]; exact (below_size (hL HB.out)) : w.heap.size ≤ gb214)); have n5_ := Aside0.mk ((by rw [hg]; exact Nat.ne_of_lt (blk_lt (g := gb211) (o := .cells #[.int .i64 a0_0, .slice (some ad213) l0_1.length c0_1] 24 (0, 0)) (bL BK211.out)) : gb211 ≠ gb214)); have n6_ := Aside0.mk ((by rw [hg]; exact Nat.ne_of_gt (blk_lt (g := gb211) (o := .cells #[.int .i64 a0_0, .slice (some ad213) l0_1.length c0_1] 24 (0, 0)) (bL BK211.out)) : gb214 ≠ gb211)); clear BK211; clear HB; have BK211 := n0_; have HB := n1_; have BK214 := n2_; have GW214 := n3_; have GE214 := n4_; have NB211_214 := n5_; have NB214_211 := n6_; clear n0_ n1_ n2_ n3_ n4_ n5_ n6_; clear hb hbox hg; have hnb45 := NB214_211.out; have hnc45 := NB211_214.out; have hcz46_0 : w44.cell? ⟨gb214, 0, none⟩ = some (.string (⟨#[]⟩ : ByteArray)) := (blk_cell BK214.out 0).trans rfl; have hcz46_1 : w44.cell? ⟨gb214, 1, none⟩ = some (.int .i64 0) := (blk_cell BK214.out 1).trans rfl; have hfz46_0 := blk_frozen BK214.out 0; have hfz46_1 := blk_frozen BK214.out 1; have hcz47_0 : w44.cell? ⟨gb211, 0, none⟩ = some (.int .i64 a0_0) := (blk_cell BK211.out 0).trans rfl; have hcz47_1 : w44.cell? ⟨gb211, 1, none⟩ = some (.slice (some ad213) l0_1.length c0_1) := (blk_cell BK211.out 1).trans rfl; have hfz47_0 := blk_frozen BK211.out 0; have hfz47_1 := blk_frozen BK211.out 1; have p215 : 0 ≤ ((ji34) : Int) := of_decide_eq_true (by first | (with_reducible assumption) | assumption); have q215 : (ji34) < (l0_1.length : Int) := of_decide_eq_true (by first | (with_reducible assumption) | assumption); obtain ⟨ad215, e215, hx215_0, hx215_1⟩ := at_T46 HR0_1.out (ji34) p215 q215; obtain rfl : ad213 = ad215 := (by injection e215); have hn215_0 : ad213.block ≠ gb214 := Nat.ne_of_lt (Nat.lt_of_lt_of_le (by have := World.block_lt_of_cell? _ _ hx215_0; first | rwa [add_block] at this | exact this) GW214.out); have hn215_1 : ad213.block ≠ gb214 := Nat.ne_of_lt (Nat.lt_of_lt_of_le (by have := World.block_lt_of_cell? _ _ hx215_0; first | rwa [add_block] at this | exact this) GW214.out); replace hx215_0 := (HB.out.cell (World.block_lt_of_cell? w _ hx215_0)).trans hx215_0; replace hx215_1 := (HB.out.cell (World.block_lt_of_cell? w _ hx215_1)).trans hx215_1; replace hx215_0 := (cell_far (p := ⟨gb214, 0, none⟩) (by first | (rw [add_block]; exact hn215_0) | (show (Addr.add _ _).block ≠ _; rw [add_block]; exact hn215_0) | exact hn215_0) (.string ((rd_T46 l0_1 x3_3).f0))).trans hx215_0; replace hx215_1 := (cell_far (p := ⟨gb214, 0, none⟩) (by first | (rw [add_block]; exact hn215_0) | (show (Addr.add _ _).block ≠ _; rw [add_block]; exact hn215_0) | exact hn215_0) (.string ((rd_T46 l0_1 x3_3).f0))).trans hx215_1; replace hx215_0 := (cell_far (p := ⟨gb214, 1, none⟩) (by first | (rw [add_block]; exact hn215_1) | (show (Addr.add _ _).block ≠ _; rw [add_block]; exact hn215_1) | exact hn215_1) (.int .i64 ((rd_T46 l0_1 x3_3).f1))).trans hx215_0; replace hx215_1 := (cell_far (p := ⟨gb214, 1, none⟩) (by first | (rw [add_block]; exact hn215_1) | (show (Addr.add _ _).block ≠ _; rw [add_block]; exact hn215_1) | exact hn215_1) (.int .i64 ((rd_T46 l0_1 x3_3).f1))).trans hx215_1; (try have hy215_0 := fun (n_ : Nat) => (show ((((w44.drewN n_).setCell ⟨gb214, 0, none⟩ (.string ((rd_T46 l0_1 x3_3).f0))).setCell ⟨gb214, 1, none⟩ (.int .i64 ((rd_T46 l0_1 x3_3).f1)))).cell? _ = some _ from hx215_0)); (try have hy215_1 := fun (n_ : Nat) => (show ((((w44.drewN n_).setCell ⟨gb214, 0, none⟩ (.string ((rd_T46 l0_1 x3_3).f0))).setCell ⟨gb214, 1, none⟩ (.int .i64 ((rd_T46 l0_1 x3_3).f1)))).cell? _ = some _ from hx215_1)); clear hn215_0; clear hn215_1; replace p215 := eq_true p215; replace q215 := eq_true q215))
  repeat (go_quiet (first | ((with_reducible refine gate_dst (N := 4) rfl ?_); (try (refine gate_guard (by rfl) ?_; dsimp only)); refine box_event ?hg (N := 4) ?hd (cs := #[.string (⟨#[]⟩ : ByteArray), .int .i64 0]) (t := 46) ?hr ?_; (case hd => rfl); (case hg => rfl); (case hr => first | (go_simp; done) | (go_simp; rfl)); intro gb214 hg w44 hbox hb; have n0_ := Aside0.mk (blk_below BK211.out hb); have n1_ := Aside0.mk (below_step (hL HB.out) hb); have n2_ := Aside0.mk (hbox); have n3_ := Above.mk ((by rw [hg]; exact (below_size (hL HB.out)) : w.heap.size ≤ gb214)); have n4_ := Above.mk ((by rw [hg]; exact (below_size (hL HB.out)) : w.heap.size ≤ gb214)); have n5_ := Aside0.mk ((by rw [hg]; exact Nat.ne_of_lt (blk_lt (g := gb211) (o := .cells #[.int .i64 a0_0, .slice (some ad213) l0_1.length c0_1] 24 (0, 0)) (bL BK211.out)) : gb211 ≠ gb214)); have n6_ := Aside0.mk ((by rw [hg]; exact Nat.ne_of_gt (blk_lt (g := gb211) (o := .cells #[.int .i64 a0_0, .slice (some ad213) l0_1.length c0_1] 24 (0, 0)) (bL BK211.out)) : gb214 ≠ gb211)); clear BK211; clear HB; have BK211 := n0_; have HB := n1_; have BK214 := n2_; have GW214 := n3_; have GE214 := n4_; have NB211_214 := n5_; have NB214_211 := n6_; clear n0_ n1_ n2_ n3_ n4_ n5_ n6_; clear hb hbox hg; have hnb45 := NB214_211.out; have hnc45 := NB211_214.out; have hcz46_0 : w44.cell? ⟨gb214, 0, none⟩ = some (.string (⟨#[]⟩ : ByteArray)) := (blk_cell BK214.out 0).trans rfl; have hcz46_1 : w44.cell? ⟨gb214, 1, none⟩ = some (.int .i64 0) := (blk_cell BK214.out 1).trans rfl; have hfz46_0 := blk_frozen BK214.out 0; have hfz46_1 := blk_frozen BK214.out 1; have hcz47_0 : w44.cell? ⟨gb211, 0, none⟩ = some (.int .i64 a0_0) := (blk_cell BK211.out 0).trans rfl; have hcz47_1 : w44.cell? ⟨gb211, 1, none⟩ = some (.slice (some ad213) l0_1.length c0_1) := (blk_cell BK211.out 1).trans rfl; have hfz47_0 := blk_frozen BK211.out 0; have hfz47_1 := blk_frozen BK211.out 1; have p215 : 0 ≤ ((ji34) : Int) := of_decide_eq_true (by first | (with_reducible assumption) | assumption); have q215 : (ji34) < (l0_1.length : Int) := of_decide_eq_true (by first | (with_reducible assumption) | assumption); obtain ⟨ad215, e215, hx215_0, hx215_1⟩ := at_T46 HR0_1.out (ji34) p215 q215; obtain rfl : ad213 = ad215 := (by injection e215); have hn215_0 : ad213.block ≠ gb214 := Nat.ne_of_lt (Nat.lt_of_lt_of_le (by have := World.block_lt_of_cell? _ _ hx215_0; first | rwa [add_block] at this | exact this) GW214.out); have hn215_1 : ad213.block ≠ gb214 := Nat.ne_of_lt (Nat.lt_of_lt_of_le (by have := World.block_lt_of_cell? _ _ hx215_0; first | rwa [add_block] at this | exact this) GW214.out); replace hx215_0 := (HB.out.cell (World.block_lt_of_cell? w _ hx215_0)).trans hx215_0; replace hx215_1 := (HB.out.cell (World.block_lt_of_cell? w _ hx215_1)).trans hx215_1; replace hx215_0 := (cell_far (p := ⟨gb214, 0, none⟩) (by first | (rw [add_block]; exact hn215_0) | (show (Addr.add _ _).block ≠ _; rw [add_block]; exact hn215_0) | exact hn215_0) (.string ((rd_T46 l0_1 x3_3).f0))).trans hx215_0; replace hx215_1 := (cell_far (p := ⟨gb214, 0, none⟩) (by first | (rw [add_block]; exact hn215_0) | (show (Addr.add _ _).block ≠ _; rw [add_block]; exact hn215_0) | exact hn215_0) (.string ((rd_T46 l0_1 x3_3).f0))).trans hx215_1; replace hx215_0 := (cell_far (p := ⟨gb214, 1, none⟩) (by first | (rw [add_block]; exact hn215_1) | (show (Addr.add _ _).block ≠ _; rw [add_block]; exact hn215_1) | exact hn215_1) (.int .i64 ((rd_T46 l0_1 x3_3).f1))).trans hx215_0; replace hx215_1 := (cell_far (p := ⟨gb214, 1, none⟩) (by first | (rw [add_block]; exact hn215_1) | (show (Addr.add _ _).block ≠ _; rw [add_block]; exact hn215_1) | exact hn215_1) (.int .i64 ((rd_T46 l0_1 x3_3).f1))).trans hx215_1; (try have hy215_0 := fun (n_ : Nat) => (show ((((w44.drewN n_).setCell ⟨gb214, 0, none⟩ (.string ((rd_T46 l0_1 x3_3).f0))).setCell ⟨gb214, 1, none⟩ (.int .i64 ((rd_T46 l0_1 x3_3).f1)))).cell? _ = some _ from hx215_0)); (try have hy215_1 := fun (n_ : Nat) => (show ((((w44.drewN n_).setCell ⟨gb214, 0, none⟩ (.string ((rd_T46 l0_1 x3_3).f0))).setCell ⟨gb214, 1, none⟩ (.int .i64 ((rd_T46 l0_1 x3_3).f1)))).cell? _ = some _ from hx215_1)); clear hn215_0; clear hn215_1; replace p215 := eq_true p215; replace q215 := eq_true q215)); try go_wp2_with (first | ((with_reducible refine gate_dst (N := 4) rfl ?_); (try (refine gate_guard (by rfl) ?_; dsimp only)); refine box_event ?hg (N := 4) ?hd (cs := #[.string (⟨#[]⟩ : ByteArray), .int .i64 0]) (t := 46) ?hr ?_; (case hd => rfl); (case hg => rfl); (case hr => first | (go_simp; done) | (go_simp; rfl)); intro gb214 hg w44 hbox hb; have n0_ := Aside0.mk (blk_below BK211.out hb); have n1_ := Aside0.mk (below_step (hL HB.out) hb); have n2_ := Aside0.mk (hbox); have n3_ := Above.mk ((by rw [hg]; exact (below_size (hL HB.out)) : w.heap.size ≤ gb214)); have n4_ := Above.mk ((by rw [hg]; exact (below_size (hL HB.out)) : w.heap.size ≤ gb214)); have n5_ := Aside0.mk ((by rw [hg]; exact Nat.ne_of_lt (blk_lt (g := gb211) (o := .cells #[.int .i64 a0_0, .slice (some ad213) l0_1.length c0_1] 24 (0, 0)) (bL BK211.out)) : gb211 ≠ gb214)); have n6_ := Aside0.mk ((by rw [hg]; exact Nat.ne_of_gt (blk_lt (g := gb211) (o := .cells #[.int .i64 a0_0, .slice (some ad213) l0_1.length c0_1] 24 (0, 0)) (bL BK211.out)) : gb214 ≠ gb211)); clear BK211; clear HB; have BK211 := n0_; have HB := n1_; have BK214 := n2_; have GW214 := n3_; have GE214 := n4_; have NB211_214 := n5_; have NB214_211 := n6_; clear n0_ n1_ n2_ n3_ n4_ n5_ n6_; clear hb hbox hg; have hnb45 := NB214_211.out; have hnc45 := NB211_214.out; have hcz46_0 : w44.cell? ⟨gb214, 0, none⟩ = some (.string (⟨#[]⟩ : ByteArray)) := (blk_cell BK214.out 0).trans rfl; have hcz46_1 : w44.cell? ⟨gb214, 1, none⟩ = some (.int .i64 0) := (blk_cell BK214.out 1).trans rfl; have hfz46_0 := blk_frozen BK214.out 0; have hfz46_1 := blk_frozen BK214.out 1; have hcz47_0 : w44.cell? ⟨gb211, 0, none⟩ = some (.int .i64 a0_0) := (blk_cell BK211.out 0).trans rfl; have hcz47_1 : w44.cell? ⟨gb211, 1, none⟩ = some (.slice (some ad213) l0_1.length c0_1) := (blk_cell BK211.out 1).trans rfl; have hfz47_0 := blk_frozen BK211.out 0; have hfz47_1 := blk_frozen BK211.out 1; have p215 : 0 ≤ ((ji34) : Int) := of_decide_eq_true (by first | (with_reducible assumption) | assumption); have q215 : (ji34) < (l0_1.length : Int) := of_decide_eq_true (by first | (with_reducible assumption) | assumption); obtain ⟨ad215, e215, hx215_0, hx215_1⟩ := at_T46 HR0_1.out (ji34) p215 q215; obtain rfl : ad213 = ad215 := (by injection e215); have hn215_0 : ad213.block ≠ gb214 := Nat.ne_of_lt (Nat.lt_of_lt_of_le (by have := World.block_lt_of_cell? _ _ hx215_0; first | rwa [add_block] at this | exact this) GW214.out); have hn215_1 : ad213.block ≠ gb214 := Nat.ne_of_lt (Nat.lt_of_lt_of_le (by have := World.block_lt_of_cell? _ _ hx215_0; first | rwa [add_block] at this | exact this) GW214.out); replace hx215_0 := (HB.out.cell (World.block_lt_of_cell? w _ hx215_0)).trans hx215_0; replace hx215_1 := (HB.out.cell (World.block_lt_of_cell? w _ hx215_1)).trans hx215_1; replace hx215_0 := (cell_far (p := ⟨gb214, 0, none⟩) (by first | (rw [add_block]; exact hn215_0) | (show (Addr.add _ _).block ≠ _; rw [add_block]; exact hn215_0) | exact hn215_0) (.string ((rd_T46 l0_1 x3_3).f0))).trans hx215_0; replace hx215_1 := (cell_far (p := ⟨gb214, 0, none⟩) (by first | (rw [add_block]; exact hn215_0) | (show (Addr.add _ _).block ≠ _; rw [add_block]; exact hn215_0) | exact hn215_0) (.string ((rd_T46 l0_1 x3_3).f0))).trans hx215_1; replace hx215_0 := (cell_far (p := ⟨gb214, 1, none⟩) (by first | (rw [add_block]; exact hn215_1) | (show (Addr.add _ _).block ≠ _; rw [add_block]; exact hn215_1) | exact hn215_1) (.int .i64 ((rd_T46 l0_1 x3_3).f1))).trans hx215_0; replace hx215_1 := (cell_far (p := ⟨gb214, 1, none⟩) (by first | (rw [add_block]; exact hn215_1) | (show (Addr.add _ _).block ≠ _; rw [add_block]; exact hn215_1) | exact hn215_1) (.int .i64 ((rd_T46 l0_1 x3_3).f1))).trans hx215_1; (try have hy215_0 := fun (n_ : Nat) => (show ((((w44.drewN n_).setCell ⟨gb214, 0, none⟩ (.string ((rd_T46 l0_1 x3_3).f0))).setCell ⟨gb214, 1, none⟩ (.int .i64 ((rd_T46 l0_1 x3_3).f1)))).cell? _ = some _ from hx215_0)); (try have hy215_1 := fun (n_ : Nat) => (show ((((w44.drewN n_).setCell ⟨gb214, 0, none⟩ (.string ((rd_T46 l0_1 x3_3).f0))).setCell ⟨gb214, 1, none⟩ (.int .i64 ((rd_T46 l0_1 x3_3).f1)))).cell? _ = some _ from hx215_1)); clear hn215_0; clear hn215_1; replace p215 := eq_true p215; replace q215 := eq_true q215)))
  go_ret
  exact ⟨by first | rfl | (simp [errW_none, errW_some] <;> rfl) | (simp only [← hji34]; first | rfl | (simp [errW_none, errW_some] <;> rfl)) | (simp [*, errW_none, errW_some] <;> rfl), hL HB.out⟩
 rw [if_pos c37] at H
 have c37b0 : (Op.bytesLess (((rd_T46 l0_1 (ji34)).f0).toList) (((rd_T46 l0_1 x3_3).f0).toList)) = true := c37
 clear c37
 have H' := Aside0.mk H
 clear H
 have hcz38_0 : wr.cell? ⟨gb211, 0, none⟩ = some (.int .i64 a0_0) := (blk_cell BK211.out 0).trans rfl
 have hcz38_1 : wr.cell? ⟨gb211, 1, none⟩ = some (.slice A0_1 l0_1.length c0_1) := (blk_cell BK211.out 1).trans rfl
 have hfz38_0 := blk_frozen BK211.out 0
 have hfz38_1 := blk_frozen BK211.out 1
 have p213 : 0 ≤ (x3_3 : Int) := of_decide_eq_true (by first | (with_reducible assumption) | assumption)
 have q213 : x3_3 < (l0_1.length : Int) := of_decide_eq_true (by first | (with_reducible assumption) | assumption)
 obtain ⟨ad213, e213, hx213_0, hx213_1⟩ := at_T46 HR0_1.out x3_3 p213 q213
 cases e213
 replace hx213_0 := (HB.out.cell (World.block_lt_of_cell? w _ hx213_0)).trans hx213_0
 replace hx213_1 := (HB.out.cell (World.block_lt_of_cell? w _ hx213_1)).trans hx213_1
 replace p213 := eq_true p213
 replace q213 := eq_true q213
 go_wp2_with (first | ((with_reducible refine gate_dst (N := 4) rfl ?_); (try (refine gate_guard (by rfl) ?_; dsimp only)); refine box_event ?hg (N := 4) ?hd (cs := #[.string (⟨#[]⟩ : ByteArray), .int .i64 0]) (t := 46) ?hr ?_; (case hd => rfl); (case hg => rfl); (case hr => first | (go_simp; done) | (go_simp; rfl)); intro gb214 hg w39 hbox hb; have n0_ := Aside0.mk (blk_below BK211.out hb); have n1_ := Aside0.mk (below_step (hL HB.out) hb); have n2_ := Aside0.mk (hbox); have n3_ := Above.mk ((by rw [hg]; exact (below_size (hL HB.out)) : w.heap.size ≤ gb214)); have n4_ := Above.mk ((by rw [hg]; exact (below_size (hL HB.out)) : w.heap.size ≤ gb214)); have n5_ := Aside0.mk ((by rw [hg]; exact Nat.ne_of_lt (blk_lt (g := gb211) (o := .cells #[.int .i64 a0_0, .slice (some ad213) l0_1.length c0_1] 24 (0, 0)) (bL BK211.out)) : gb211 ≠ gb214)); have n6_ := Aside0.mk ((by rw [hg]; exact Nat.ne_of_gt (blk_lt (g := gb211) (o := .cells #[.int .i64 a0_0, .slice (some ad213) l0_1.length c0_1] 24 (0, 0)) (bL BK211.out)) : gb214 ≠ gb211)); clear BK211; clear HB; have BK211 := n0_; have HB := n1_; have BK214 := n2_; have GW214 := n3_; have GE214 := n4_; have NB211_214 := n5_; have NB214_211 := n6_; clear n0_ n1_ n2_ n3_ n4_ n5_ n6_; clear hb hbox hg; have hnb40 := NB214_211.out; have hnc40 := NB211_214.out; have hcz41_0 : w39.cell? ⟨gb214, 0, none⟩ = some (.string (⟨#[]⟩ : ByteArray)) := (blk_cell BK214.out 0).trans rfl; have hcz41_1 : w39.cell? ⟨gb214, 1, none⟩ = some (.int .i64 0) := (blk_cell BK214.out 1).trans rfl; have hfz41_0 := blk_frozen BK214.out 0; have hfz41_1 := blk_frozen BK214.out 1; have hcz42_0 : w39.cell? ⟨gb211, 0, none⟩ = some (.int .i64 a0_0) := (blk_cell BK211.out 0).trans rfl; have hcz42_1 : w39.cell? ⟨gb211, 1, none⟩ = some (.slice (some ad213) l0_1.length c0_1) := (blk_cell BK211.out 1).trans rfl; have hfz42_0 := blk_frozen BK211.out 0; have hfz42_1 := blk_frozen BK211.out 1; have p215 : 0 ≤ ((ji34) : Int) := of_decide_eq_true (by first | (with_reducible assumption) | assumption); have q215 : (ji34) < (l0_1.length : Int) := of_decide_eq_true (by first | (with_reducible assumption) | assumption); obtain ⟨ad215, e215, hx215_0, hx215_1⟩ := at_T46 HR0_1.out (ji34) p215 q215; obtain rfl : ad213 = ad215 := (by injection e215); have hn215_0 : ad213.block ≠ gb214 := Nat.ne_of_lt (Nat.lt_of_lt_of_le (by have := World.block_lt_of_cell? _ _ hx215_0; first | rwa [add_block] at this | exact this) GW214.out); have hn215_1 : ad213.block ≠ gb214 := Nat.ne_of_lt (Nat.lt_of_lt_of_le (by have := World.block_lt_of_cell? _ _ hx215_0; first | rwa [add_block] at this | exact this) GW214.out); replace hx215_0 := (HB.out.cell (World.block_lt_of_cell? w _ hx215_0)).trans hx215_0; replace hx215_1 := (HB.out.cell (World.block_lt_of_cell? w _ hx215_1)).trans hx215_1; replace hx215_0 := (cell_far (p := ⟨gb214, 0, none⟩) (by first | (rw [add_block]; exact hn215_0) | (show (Addr.add _ _).block ≠ _; rw [add_block]; exact hn215_0) | exact hn215_0) (.string ((rd_T46 l0_1 x3_3).f0))).trans hx215_0; replace hx215_1 := (cell_far (p := ⟨gb214, 0, none⟩) (by first | (rw [add_block]; exact hn215_0) | (show (Addr.add _ _).block ≠ _; rw [add_block]; exact hn215_0) | exact hn215_0) (.string ((rd_T46 l0_1 x3_3).f0))).trans hx215_1; replace hx215_0 := (cell_far (p := ⟨gb214, 1, none⟩) (by first | (rw [add_block]; exact hn215_1) | (show (Addr.add _ _).block ≠ _; rw [add_block]; exact hn215_1) | exact hn215_1) (.int .i64 ((rd_T46 l0_1 x3_3).f1))).trans hx215_0; replace hx215_1 := (cell_far (p := ⟨gb214, 1, none⟩) (by first | (rw [add_block]; exact hn215_1) | (show (Addr.add _ _).block ≠ _; rw [add_block]; exact hn215_1) | exact hn215_1) (.int .i64 ((rd_T46 l0_1 x3_3).f1))).trans hx215_1; (try have hy215_0 := fun (n_ : Nat) => (show ((((w39.drewN n_).setCell ⟨gb214, 0, none⟩ (.string ((rd_T46 l0_1 x3_3).f0))).setCell ⟨gb214, 1, none⟩ (.int .i64 ((rd_T46 l0_1 x3_3).f1)))).cell? _ = some _ from hx215_0)); (try have hy215_1 := fun (n_ : Nat) => (show ((((w39.drewN n_).setCell ⟨gb214, 0, none⟩ (.string ((rd_T46 l0_1 x3_3).f0))).setCell ⟨gb214, 1, none⟩ (.int .i64 ((rd_T46 l0_1 x3_3).f1)))).cell? _ = some _ from hx215_1)); clear hn215_0; clear hn215_1; replace p215 := eq_true p215; replace q215 := eq_true q215))
 repeat (go_quiet (first | ((with_reducible refine gate_dst (N := 4) rfl ?_); (try (refine gate_guard (by rfl) ?_; dsimp only)); refine box_event ?hg (N := 4) ?hd (cs := #[.string (⟨#[]⟩ : ByteArray), .int .i64 0]) (t := 46) ?hr ?_; (case hd => rfl); (case hg => rfl); (case hr => first | (go_simp; done) | (go_simp; rfl)); intro gb214 hg w39 hbox hb; have n0_ := Aside0.mk (blk_below BK211.out hb); have n1_ := Aside0.mk (below_step (hL HB.out) hb); have n2_ := Aside0.mk (hbox); have n3_ := Above.mk ((by rw [hg]; exact (below_size (hL HB.out)) : w.heap.size ≤ gb214)); have n4_ := Above.mk ((by rw [hg]; exact (below_size (hL HB.out)) : w.heap.size ≤ gb214)); have n5_ := Aside0.mk ((by rw [hg]; exact Nat.ne_of_lt (blk_lt (g := gb211) (o := .cells #[.int .i64 a0_0, .slice (some ad213) l0_1.length c0_1] 24 (0, 0)) (bL BK211.out)) : gb211 ≠ gb214)); have n6_ := Aside0.mk ((by rw [hg]; exact Nat.ne_of_gt (blk_lt (g := gb211) (o := .cells #[.int .i64 a0_0, .slice (some ad213) l0_1.length c0_1] 24 (0, 0)) (bL BK211.out)) : gb214 ≠ gb211)); clear BK211; clear HB; have BK211 := n0_; have HB := n1_; have BK214 := n2_; have GW214 := n3_; have GE214 := n4_; have NB211_214 := n5_; have NB214_211 := n6_; clear n0_ n1_ n2_ n3_ n4_ n5_ n6_; clear hb hbox hg; have hnb40 := NB214_211.out; have hnc40 := NB211_214.out; have hcz41_0 : w39.cell? ⟨gb214, 0, none⟩ = some (.string (⟨#[]⟩ : ByteArray)) := (blk_cell BK214.out 0).trans rfl; have hcz41_1 : w39.cell? ⟨gb214, 1, none⟩ = some (.int .i64 0) := (blk_cell BK214.out 1).trans rfl; have hfz41_0 := blk_frozen BK214.out 0; have hfz41_1 := blk_frozen BK214.out 1; have hcz42_0 : w39.cell? ⟨gb211, 0, none⟩ = some (.int .i64 a0_0) := (blk_cell BK211.out 0).trans rfl; have hcz42_1 : w39.cell? ⟨gb211, 1, none⟩ = some (.slice (some ad213) l0_1.length c0_1) := (blk_cell BK211.out 1).trans rfl; have hfz42_0 := blk_frozen BK211.out 0; have hfz42_1 := blk_frozen BK211.out 1; have p215 : 0 ≤ ((ji34) : Int) := of_decide_eq_true (by first | (with_reducible assumption) | assumption); have q215 : (ji34) < (l0_1.length : Int) := of_decide_eq_true (by first | (with_reducible assumption) | assumption); obtain ⟨ad215, e215, hx215_0, hx215_1⟩ := at_T46 HR0_1.out (ji34) p215 q215; obtain rfl : ad213 = ad215 := (by injection e215); have hn215_0 : ad213.block ≠ gb214 := Nat.ne_of_lt (Nat.lt_of_lt_of_le (by have := World.block_lt_of_cell? _ _ hx215_0; first | rwa [add_block] at this | exact this) GW214.out); have hn215_1 : ad213.block ≠ gb214 := Nat.ne_of_lt (Nat.lt_of_lt_of_le (by have := World.block_lt_of_cell? _ _ hx215_0; first | rwa [add_block] at this | exact this) GW214.out); replace hx215_0 := (HB.out.cell (World.block_lt_of_cell? w _ hx215_0)).trans hx215_0; replace hx215_1 := (HB.out.cell (World.block_lt_of_cell? w _ hx215_1)).trans hx215_1; replace hx215_0 := (cell_far (p := ⟨gb214, 0, none⟩) (by first | (rw [add_block]; exact hn215_0) | (show (Addr.add _ _).block ≠ _; rw [add_block]; exact hn215_0) | exact hn215_0) (.string ((rd_T46 l0_1 x3_3).f0))).trans hx215_0; replace hx215_1 := (cell_far (p := ⟨gb214, 0, none⟩) (by first | (rw [add_block]; exact hn215_0) | (show (Addr.add _ _).block ≠ _; rw [add_block]; exact hn215_0) | exact hn215_0) (.string ((rd_T46 l0_1 x3_3).f0))).trans hx215_1; replace hx215_0 := (cell_far (p := ⟨gb214, 1, none⟩) (by first | (rw [add_block]; exact hn215_1) | (show (Addr.add _ _).block ≠ _; rw [add_block]; exact hn215_1) | exact hn215_1) (.int .i64 ((rd_T46 l0_1 x3_3).f1))).trans hx215_0; replace hx215_1 := (cell_far (p := ⟨gb214, 1, none⟩) (by first | (rw [add_block]; exact hn215_1) | (show (Addr.add _ _).block ≠ _; rw [add_block]; exact hn215_1) | exact hn215_1) (.int .i64 ((rd_T46 l0_1 x3_3).f1))).trans hx215_1; (try have hy215_0 := fun (n_ : Nat) => (show ((((w39.drewN n_).setCell ⟨gb214, 0, none⟩ (.string ((rd_T46 l0_1 x3_3).f0))).setCell ⟨gb214, 1, none⟩ (.int .i64 ((rd_T46 l0_1 x3_3).f1)))).cell? _ = some _ from hx215_0)); (try have hy215_1 := fun (n_ : Nat) => (show ((((w39.drewN n_).setCell ⟨gb214, 0, none⟩ (.string ((rd_T46 l0_1 x3_3).f0))).setCell ⟨gb214, 1, none⟩ (.int .i64 ((rd_T46 l0_1 x3_3).f1)))).cell? _ = some _ from hx215_1)); clear hn215_0; clear hn215_1; replace p215 := eq_true p215; replace q215 := eq_true q215)); try go_wp2_with (first | ((with_reducible refine gate_dst (N := 4) rfl ?_); (try (refine gate_guard (by rfl) ?_; dsimp only)); refine box_event ?hg (N := 4) ?hd (cs := #[.string (⟨#[]⟩ : ByteArray), .int .i64 0]) (t := 46) ?hr ?_; (case hd => rfl); (case hg => rfl); (case hr => first | (go_simp; done) | (go_simp; rfl)); intro gb214 hg w39 hbox hb; have n0_ := Aside0.mk (blk_below BK211.out hb); have n1_ := Aside0.mk (below_step (hL HB.out) hb); have n2_ := Aside0.mk (hbox); have n3_ := Above.mk ((by rw [hg]; exact (below_size (hL HB.out)) : w.heap.size ≤ gb214)); have n4_ := Above.mk ((by rw [hg]; exact (below_size (hL HB.out)) : w.heap.size ≤ gb214)); have n5_ := Aside0.mk ((by rw [hg]; exact Nat.ne_of_lt (blk_lt (g := gb211) (o := .cells #[.int .i64 a0_0, .slice (some ad213) l0_1.length c0_1] 24 (0, 0)) (bL BK211.out)) : gb211 ≠ gb214)); have n6_ := Aside0.mk ((by rw [hg]; exact Nat.ne_of_gt (blk_lt (g := gb211) (o := .cells #[.int .i64 a0_0, .slice (some ad213) l0_1.length c0_1] 24 (0, 0)) (bL BK211.out)) : gb214 ≠ gb211)); clear BK211; clear HB; have BK211 := n0_; have HB := n1_; have BK214 := n2_; have GW214 := n3_; have GE214 := n4_; have NB211_214 := n5_; have NB214_211 := n6_; clear n0_ n1_ n2_ n3_ n4_ n5_ n6_; clear hb hbox hg; have hnb40 := NB214_211.out; have hnc40 := NB211_214.out; have hcz41_0 : w39.cell? ⟨gb214, 0, none⟩ = some (.string (⟨#[]⟩ : ByteArray)) := (blk_cell BK214.out 0).trans rfl; have hcz41_1 : w39.cell? ⟨gb214, 1, none⟩ = some (.int .i64 0) := (blk_cell BK214.out 1).trans rfl; have hfz41_0 := blk_frozen BK214.out 0; have hfz41_1 := blk_frozen BK214.out 1; have hcz42_0 : w39.cell? ⟨gb211, 0, none⟩ = some (.int .i64 a0_0) := (blk_cell BK211.out 0).trans rfl; have hcz42_1 : w39.cell? ⟨gb211, 1, none⟩ = some (.slice (some ad213) l0_1.length c0_1) := (blk_cell BK211.out 1).trans rfl; have hfz42_0 := blk_frozen BK211.out 0; have hfz42_1 := blk_frozen BK211.out 1; have p215 : 0 ≤ ((ji34) : Int) := of_decide_eq_true (by first | (with_reducible assumption) | assumption); have q215 : (ji34) < (l0_1.length : Int) := of_decide_eq_true (by first | (with_reducible assumption) | assumption); obtain ⟨ad215, e215, hx215_0, hx215_1⟩ := at_T46 HR0_1.out (ji34) p215 q215; obtain rfl : ad213 = ad215 := (by injection e215); have hn215_0 : ad213.block ≠ gb214 := Nat.ne_of_lt (Nat.lt_of_lt_of_le (by have := World.block_lt_of_cell? _ _ hx215_0; first | rwa [add_block] at this | exact this) GW214.out); have hn215_1 : ad213.block ≠ gb214 := Nat.ne_of_lt (Nat.lt_of_lt_of_le (by have := World.block_lt_of_cell? _ _ hx215_0; first | rwa [add_block] at this | exact this) GW214.out); replace hx215_0 := (HB.out.cell (World.block_lt_of_cell? w _ hx215_0)).trans hx215_0; replace hx215_1 := (HB.out.cell (World.block_lt_of_cell? w _ hx215_1)).trans hx215_1; replace hx215_0 := (cell_far (p := ⟨gb214, 0, none⟩) (by first | (rw [add_block]; exact hn215_0) | (show (Addr.add _ _).block ≠ _; rw [add_block]; exact hn215_0) | exact hn215_0) (.string ((rd_T46 l0_1 x3_3).f0))).trans hx215_0; replace hx215_1 := (cell_far (p := ⟨gb214, 0, none⟩) (by first | (rw [add_block]; exact hn215_0) | (show (Addr.add _ _).block ≠ _; rw [add_block]; exact hn215_0) | exact hn215_0) (.string ((rd_T46 l0_1 x3_3).f0))).trans hx215_1; replace hx215_0 := (cell_far (p := ⟨gb214, 1, none⟩) (by first | (rw [add_block]; exact hn215_1) | (show (Addr.add _ _).block ≠ _; rw [add_block]; exact hn215_1) | exact hn215_1) (.int .i64 ((rd_T46 l0_1 x3_3).f1))).trans hx215_0; replace hx215_1 := (cell_far (p := ⟨gb214, 1, none⟩) (by first | (rw [add_block]; exact hn215_1) | (show (Addr.add _ _).block ≠ _; rw [add_block]; exact hn215_1) | exact hn215_1) (.int .i64 ((rd_T46 l0_1 x3_3).f1))).trans hx215_1; (try have hy215_0 := fun (n_ : Nat) => (show ((((w39.drewN n_).setCell ⟨gb214, 0, none⟩ (.string ((rd_T46 l0_1 x3_3).f0))).setCell ⟨gb214, 1, none⟩ (.int .i64 ((rd_T46 l0_1 x3_3).f1)))).cell? _ = some _ from hx215_0)); (try have hy215_1 := fun (n_ : Nat) => (show ((((w39.drewN n_).setCell ⟨gb214, 0, none⟩ (.string ((rd_T46 l0_1 x3_3).f0))).setCell ⟨gb214, 1, none⟩ (.int .i64 ((rd_T46 l0_1 x3_3).f1)))).cell? _ = some _ from hx215_1)); clear hn215_0; clear hn215_1; replace p215 := eq_true p215; replace q215 := eq_true q215)))
 go_roundg k3
 case measure => have := HJ1.out; have := HJ7.out; have := HK3.out; omega
 case rel => exact ⟨(wrap64 (x3_3 + 1)), (by first | rfl | (simp; done) | (simp [*]; done) | (simp [ne_nil_bytes]; done) | (simp [eq_nil_bytes]; done)), H', ⟨by have := HJ1.out; have := HJ7.out; have := HK3.out; omega⟩, ⟨by (with_reducible repeat (first | refine blk_drewN ?_ _ | refine blk_drew ?_ | refine blk_alloc ?_ _)); refine blk_far ?_ NB211_214.out _; (with_reducible repeat (first | refine blk_drewN ?_ _ | refine blk_drew ?_ | refine blk_alloc ?_ _)); refine blk_far ?_ NB211_214.out _; exact bL BK211.out⟩, ⟨hL HB.out⟩⟩

end Go.Proofs.Ytmgjccpolkhhhaa.PAll
