-- Written by a program of this session for this claim (mp.py, over the kit's print); Lean checks it.
import Derived.Test.YtmgjccpolkhhhaaPAllx0
import Derived.Test.YtmgjccpolkhhhaaPAllx2
namespace Go.Proofs.Ytmgjccpolkhhhaa.PAll
open Go.RowKit Go.Proofs.YtmgjccpolkhhhaaW.PrintWords Go.Proofs.YtmgjccpolkhhhaaW.PrintLast Go.Proofs.YtmgjccpolkhhhaaW.PrintMore Go.Proofs.Ytmgjccpolkhhhaa.Fv Go.Proofs.Ytmgjccpolkhhhaa.Hl
attribute [local go_sem] max2_int min2_int max_two min_two max_three min_three max_four min_four str_gtr str_leq str_geq cell_set2   -- for this text's walks alone
set_option linter.unusedVariables false
set_option linter.unusedSimpArgs false

attribute [local go_sem high] eqA46
/-! ### shelfmarkref12_Same: function 19 -/
mutual
def shelfmarkref12_Same.j0 : Nat → Bool → Int → List (S46) → Int → List (S46) → Option (Bool)
 | 0, _, _, _, _, _ => none
 | k + 1, x19, x238000, x238001, x239000, x239001 => if x19 = true then (some false) else (shelfmarkref12_Same.l0 k 0 x238000 x238001 x239000 x239001)
def shelfmarkref12_Same.l0 : Nat → Int → Int → List (S46) → Int → List (S46) → Option (Bool)
 | 0, _, _, _, _, _ => none
 | k + 1, x5, x238000, x238001, x239000, x239001 => if x5 < (x238001.length : Int) then (if 0 ≤ x5 then (if x5 < (x239001.length : Int) then (if (!((((rd_T46 x238001 x5).f0).toList) == (((rd_T46 x239001 x5).f0).toList)) || (!(((rd_T46 x238001 x5).f1) == ((rd_T46 x239001 x5).f1)))) = true then (some false) else (shelfmarkref12_Same.l0 k (wrap64 (x5 + 1)) x238000 x238001 x239000 x239001)) else (none)) else (none)) else (some true)
end
def shelfmarkref12_Same.f (k : Nat) (a0_0 : Int) (l0_1 : List (S46)) (a1_0 : Int) (l1_1 : List (S46)) : Option (Bool) := if a0_0 = a1_0 then (shelfmarkref12_Same.j0 k ((l0_1.length : Int) != (l1_1.length : Int)) a0_0 l0_1 a1_0 l1_1) else (shelfmarkref12_Same.j0 k true a0_0 l0_1 a1_0 l1_1)
theorem shelfmarkref12_Same.mono_l : ∀ k, (∀ y0 y1 y2 y3 y4, LeO (shelfmarkref12_Same.j0 k y0 y1 y2 y3 y4) (shelfmarkref12_Same.j0 (k + 1) y0 y1 y2 y3 y4)) ∧ (∀ y0 y1 y2 y3 y4, LeO (shelfmarkref12_Same.l0 k y0 y1 y2 y3 y4) (shelfmarkref12_Same.l0 (k + 1) y0 y1 y2 y3 y4))
 | 0 => ⟨fun _ _ _ _ _ r h => by simp [shelfmarkref12_Same.j0] at h, fun _ _ _ _ _ r h => by simp [shelfmarkref12_Same.l0] at h⟩
 | k + 1 => by
  obtain ⟨ih0, ih1⟩ := shelfmarkref12_Same.mono_l k
  refine ⟨?_, ?_⟩
  ·intro y0 y1 y2 y3 y4
   unfold shelfmarkref12_Same.j0
   repeat' first
   | (with_reducible exact ih0 _ _ _ _ _)
   | (with_reducible exact ih1 _ _ _ _ _)
   | (with_reducible exact LeO.refl _)
   | (with_reducible exact LeO.none _)
   | (with_reducible refine LeO.ite ?_ ?_)
   | (with_reducible refine LeO.bind ?_ (fun _ => ?_))
   | exact ih0 _ _ _ _ _
   | exact ih1 _ _ _ _ _
   | exact LeO.none _
   | refine LeO.ite ?_ ?_
   | refine LeO.bind ?_ (fun _ => ?_)
  ·intro y0 y1 y2 y3 y4
   unfold shelfmarkref12_Same.l0
   repeat' first
   | (with_reducible exact ih0 _ _ _ _ _)
   | (with_reducible exact ih1 _ _ _ _ _)
   | (with_reducible exact LeO.refl _)
   | (with_reducible exact LeO.none _)
   | (with_reducible refine LeO.ite ?_ ?_)
   | (with_reducible refine LeO.bind ?_ (fun _ => ?_))
   | exact ih0 _ _ _ _ _
   | exact ih1 _ _ _ _ _
   | exact LeO.none _
   | refine LeO.ite ?_ ?_
   | refine LeO.bind ?_ (fun _ => ?_)
theorem shelfmarkref12_Same.mono : ∀ a0 a1 a2 a3 k, LeO (shelfmarkref12_Same.f k a0 a1 a2 a3) (shelfmarkref12_Same.f (k + 1) a0 a1 a2 a3) := by
 intro a0 a1 a2 a3 k
 obtain ⟨ih0, ih1⟩ := shelfmarkref12_Same.mono_l k
 unfold shelfmarkref12_Same.f
 repeat' first
   | (with_reducible exact ih0 _ _ _ _ _)
   | (with_reducible exact ih1 _ _ _ _ _)
   | (with_reducible exact LeO.refl _)
   | (with_reducible exact LeO.none _)
   | (with_reducible refine LeO.ite ?_ ?_)
   | (with_reducible refine LeO.bind ?_ (fun _ => ?_))
   | exact ih0 _ _ _ _ _
   | exact ih1 _ _ _ _ _
   | exact LeO.none _
   | refine LeO.ite ?_ ?_
   | refine LeO.bind ?_ (fun _ => ?_)
set_option maxHeartbeats 8000000 in
set_option maxRecDepth 100000 in
theorem shelfmarkref12_Same.calls (k : Nat) (a0_0 : Int) (A0_1 : Option Addr) (c0_1 : Nat) (l0_1 : List (S46)) (a1_0 : Int) (A1_1 : Option Addr) (c1_1 : Nat) (l1_1 : List (S46)) (r : Bool) (w : World) (hr0_1 : Kd.C k46 w A0_1 l0_1.length l0_1) (hc0_1 : l0_1.length ≤ c0_1) (hr1_1 : Kd.C k46 w A1_1 l1_1.length l1_1) (hc1_1 : l1_1.length ≤ c1_1) (h : shelfmarkref12_Same.f k a0_0 l0_1 a1_0 l1_1 = some r) :
  Calls Try.prog 19 #[.agg #[.int .i64 a0_0, .slice A0_1 l0_1.length c0_1], .agg #[.int .i64 a1_0, .slice A1_1 l1_1.length c1_1]] w fun e w' => e = .returned (.bool r) ∧ Below w.heap.size w w' := by
 have hu24 := Try.underlying24
 have hu46 := Try.underlying46
 have HR0_1 := Aside0.mk hr0_1
 have HC0_1 := Aside0.mk hc0_1
 clear hr0_1 hc0_1
 have HR1_1 := Aside0.mk hr1_1
 have HC1_1 := Aside0.mk hc1_1
 clear hr1_1 hc1_1
 have HB := Aside0.mk (Below.refl w.heap.size w)
 have H : (if a0_0 = a1_0 then (shelfmarkref12_Same.j0 k ((l0_1.length : Int) != (l1_1.length : Int)) a0_0 l0_1 a1_0 l1_1) else (shelfmarkref12_Same.j0 k true a0_0 l0_1 a1_0 l1_1)) = some r := h
 clear h
 have HC3 := Aside0.mk H
 clear H
 go_enter Try.func19, Try.ntmps19
 go_upto_region 1 with (first | ((with_reducible refine gate_dst (N := 2) rfl ?_); (try (refine gate_guard (by rfl) ?_; dsimp only)); refine box_event ?hg (N := 2) ?hd (cs := #[.int .i64 a0_0, .slice A0_1 l0_1.length c0_1]) (t := 24) ?hr ?_; (case hd => rfl); (case hg => rfl); (case hr => first | (go_simp; done) | (go_simp; rfl)); intro gb237 hg w4 hbox hb; have n0_ := Aside0.mk (below_step (hL HB.out) hb); have n1_ := Aside0.mk (hbox); have n2_ := Above.mk ((by rw [hg]; exact (below_size (hL HB.out)) : w.heap.size ≤ gb237)); have n3_ := Above.mk ((by rw [hg]; exact (below_size (hL HB.out)) : w.heap.size ≤ gb237)); clear HB; have HB := n0_; have BK237 := n1_; have GW237 := n2_; have GE237 := n3_; clear n0_ n1_ n2_ n3_; clear hb hbox hg) | ((with_reducible refine gate_dst (N := 3) rfl ?_); (try (refine gate_guard (by rfl) ?_; dsimp only)); refine box_event ?hg (N := 3) ?hd (cs := #[.int .i64 a1_0, .slice A1_1 l1_1.length c1_1]) (t := 24) ?hr ?_; (case hd => rfl); (case hg => rfl); (case hr => first | (go_simp; done) | (go_simp; rfl)); intro gb238 hg w5 hbox hb; have n0_ := Aside0.mk (blk_below BK237.out hb); have n1_ := Aside0.mk (below_step (hL HB.out) hb); have n2_ := Aside0.mk (hbox); have n3_ := Above.mk ((by rw [hg]; exact (below_size (hL HB.out)) : w.heap.size ≤ gb238)); have n4_ := Above.mk ((by rw [hg]; exact (below_size (hL HB.out)) : w.heap.size ≤ gb238)); have n5_ := Aside0.mk ((by rw [hg]; exact Nat.ne_of_lt (blk_lt (g := gb237) (o := .cells #[.int .i64 a0_0, .slice A0_1 l0_1.length c0_1] 24 (0, 0)) (bL BK237.out)) : gb237 ≠ gb238)); have n6_ := Aside0.mk ((by rw [hg]; exact Nat.ne_of_gt (blk_lt (g := gb237) (o := .cells #[.int .i64 a0_0, .slice A0_1 l0_1.length c0_1] 24 (0, 0)) (bL BK237.out)) : gb238 ≠ gb237)); clear BK237; clear HB; have BK237 := n0_; have HB := n1_; have BK238 := n2_; have GW238 := n3_; have GE238 := n4_; have NB237_238 := n5_; have NB238_237 := n6_; clear n0_ n1_ n2_ n3_ n4_ n5_ n6_; clear hb hbox hg))
 repeat (go_quiet (first | ((with_reducible refine gate_dst (N := 2) rfl ?_); (try (refine gate_guard (by rfl) ?_; dsimp only)); refine box_event ?hg (N := 2) ?hd (cs := #[.int .i64 a0_0, .slice A0_1 l0_1.length c0_1]) (t := 24) ?hr ?_; (case hd => rfl); (case hg => rfl); (case hr => first | (go_simp; done) | (go_simp; rfl)); intro gb237 hg w4 hbox hb; have n0_ := Aside0.mk (below_step (hL HB.out) hb); have n1_ := Aside0.mk (hbox); have n2_ := Above.mk ((by rw [hg]; exact (below_size (hL HB.out)) : w.heap.size ≤ gb237)); have n3_ := Above.mk ((by rw [hg]; exact (below_size (hL HB.out)) : w.heap.size ≤ gb237)); clear HB; have HB := n0_; have BK237 := n1_; have GW237 := n2_; have GE237 := n3_; clear n0_ n1_ n2_ n3_; clear hb hbox hg) | ((with_reducible refine gate_dst (N := 3) rfl ?_); (try (refine gate_guard (by rfl) ?_; dsimp only)); refine box_event ?hg (N := 3) ?hd (cs := #[.int .i64 a1_0, .slice A1_1 l1_1.length c1_1]) (t := 24) ?hr ?_; (case hd => rfl); (case hg => rfl); (case hr => first | (go_simp; done) | (go_simp; rfl)); intro gb238 hg w5 hbox hb; have n0_ := Aside0.mk (blk_below BK237.out hb); have n1_ := Aside0.mk (below_step (hL HB.out) hb); have n2_ := Aside0.mk (hbox); have n3_ := Above.mk ((by rw [hg]; exact (below_size (hL HB.out)) : w.heap.size ≤ gb238)); have n4_ := Above.mk ((by rw [hg]; exact (below_size (hL HB.out)) : w.heap.size ≤ gb238)); have n5_ := Aside0.mk ((by rw [hg]; exact Nat.ne_of_lt (blk_lt (g := gb237) (o := .cells #[.int .i64 a0_0, .slice A0_1 l0_1.length c0_1] 24 (0, 0)) (bL BK237.out)) : gb237 ≠ gb238)); have n6_ := Aside0.mk ((by rw [hg]; exact Nat.ne_of_gt (blk_lt (g := gb237) (o := .cells #[.int .i64 a0_0, .slice A0_1 l0_1.length c0_1] 24 (0, 0)) (bL BK237.out)) : gb238 ≠ gb237)); clear BK237; clear HB; have BK237 := n0_; have HB := n1_; have BK238 := n2_; have GW238 := n3_; have GE238 := n4_; have NB237_238 := n5_; have NB238_237 := n6_; clear n0_ n1_ n2_ n3_ n4_ n5_ n6_; clear hb hbox hg)); go_upto_region 1 with (first | ((with_reducible refine gate_dst (N := 2) rfl ?_); (try (refine gate_guard (by rfl) ?_; dsimp only)); refine box_event ?hg (N := 2) ?hd (cs := #[.int .i64 a0_0, .slice A0_1 l0_1.length c0_1]) (t := 24) ?hr ?_; (case hd => rfl); (case hg => rfl); (case hr => first | (go_simp; done) | (go_simp; rfl)); intro gb237 hg w4 hbox hb; have n0_ := Aside0.mk (below_step (hL HB.out) hb); have n1_ := Aside0.mk (hbox); have n2_ := Above.mk ((by rw [hg]; exact (below_size (hL HB.out)) : w.heap.size ≤ gb237)); have n3_ := Above.mk ((by rw [hg]; exact (below_size (hL HB.out)) : w.heap.size ≤ gb237)); clear HB; have HB := n0_; have BK237 := n1_; have GW237 := n2_; have GE237 := n3_; clear n0_ n1_ n2_ n3_; clear hb hbox hg) | ((with_reducible refine gate_dst (N := 3) rfl ?_); (try (refine gate_guard (by rfl) ?_; dsimp only)); refine box_event ?hg (N := 3) ?hd (cs := #[.int .i64 a1_0, .slice A1_1 l1_1.length c1_1]) (t := 24) ?hr ?_; (case hd => rfl); (case hg => rfl); (case hr => first | (go_simp; done) | (go_simp; rfl)); intro gb238 hg w5 hbox hb; have n0_ := Aside0.mk (blk_below BK237.out hb); have n1_ := Aside0.mk (below_step (hL HB.out) hb); have n2_ := Aside0.mk (hbox); have n3_ := Above.mk ((by rw [hg]; exact (below_size (hL HB.out)) : w.heap.size ≤ gb238)); have n4_ := Above.mk ((by rw [hg]; exact (below_size (hL HB.out)) : w.heap.size ≤ gb238)); have n5_ := Aside0.mk ((by rw [hg]; exact Nat.ne_of_lt (blk_lt (g := gb237) (o := .cells #[.int .i64 a0_0, .slice A0_1 l0_1.length c0_1] 24 (0, 0)) (bL BK237.out)) : gb237 ≠ gb238)); have n6_ := Aside0.mk ((by rw [hg]; exact Nat.ne_of_gt (blk_lt (g := gb237) (o := .cells #[.int .i64 a0_0, .slice A0_1 l0_1.length c0_1] 24 (0, 0)) (bL BK237.out)) : gb238 ≠ gb237)); clear BK237; clear HB; have BK237 := n0_; have HB := n1_; have BK238 := n2_; have GW238 := n3_; have GE238 := n4_; have NB237_238 := n5_; have NB238_237 := n6_; clear n0_ n1_ n2_ n3_ n4_ n5_ n6_; clear hb hbox hg)))
 (try simp only [Act.put, sT, sZ, sS])
 go_cut [19] (fun v19 wc => ∃ (kq : Nat) (x19_2 : Bool), v19 = .bool x19_2 ∧ Aside0 (shelfmarkref12_Same.j0 kq x19_2 a0_0 l0_1 a1_0 l1_1 = some r) ∧ Aside0 (kq ≤ k) ∧ Aside0 (wc.heap[gb237]? = some (.cells #[.int .i64 a0_0, (.slice A0_1 l0_1.length c0_1)] 24 (0, 0))) ∧ Aside0 (wc.heap[gb238]? = some (.cells #[.int .i64 a1_0, (.slice A1_1 l1_1.length c1_1)] 24 (0, 0))) ∧ Aside0 (Below w.heap.size w wc))
 case first =>
  have H := HC3.out
  clear HC3
  by_cases c6 : a0_0 = a1_0
  rotate_left
  ·rw [if_neg c6] at H
   have c6b0 : (a0_0 == a1_0) = false := beq_eq_false_iff_ne.mpr c6
   have c6b1 : (a0_0 != a1_0) = true := bne_iff_ne.mpr c6
   (first | rw [c6b0] | (simp only [i64_w, i32_w]; rw [c6b0]) | skip)
   have H' := Aside0.mk H
   clear H
   have hnb10 := NB237_238.out
   have hnc10 := NB238_237.out
   have hcz11_0 : w5.cell? ⟨gb237, 0, none⟩ = some (.int .i64 a0_0) := (blk_cell BK237.out 0).trans rfl
   have hcz11_1 : w5.cell? ⟨gb237, 1, none⟩ = some (.slice A0_1 l0_1.length c0_1) := (blk_cell BK237.out 1).trans rfl
   have hfz11_0 := blk_frozen BK237.out 0
   have hfz11_1 := blk_frozen BK237.out 1
   have hcz12_0 : w5.cell? ⟨gb238, 0, none⟩ = some (.int .i64 a1_0) := (blk_cell BK238.out 0).trans rfl
   have hcz12_1 : w5.cell? ⟨gb238, 1, none⟩ = some (.slice A1_1 l1_1.length c1_1) := (blk_cell BK238.out 1).trans rfl
   have hfz12_0 := blk_frozen BK238.out 0
   have hfz12_1 := blk_frozen BK238.out 1
   go_wp2
   repeat (go_quiet (fail); try go_wp2)
   go_meet
   case rel => exact ⟨_, (true), (by first | rfl | (simp; done) | (simp [*]; done) | (simp [ne_nil_bytes]; done) | (simp [eq_nil_bytes]; done)), H', ⟨by first | omega | exact Nat.le_refl _⟩, ⟨by exact bL BK237.out⟩, ⟨by exact bL BK238.out⟩, ⟨hL HB.out⟩⟩
  rw [if_pos c6] at H
  have c6b0 : (a0_0 == a1_0) = true := beq_iff_eq.mpr c6
  have c6b1 : (a0_0 != a1_0) = false := bne_eq_false_iff_eq.mpr c6
  clear c6
  (first | rw [c6b0] | (simp only [i64_w, i32_w]; rw [c6b0]) | skip)
  have H' := Aside0.mk H
  clear H
  have hnb7 := NB237_238.out
  have hnc7 := NB238_237.out
  have hcz8_0 : w5.cell? ⟨gb237, 0, none⟩ = some (.int .i64 a0_0) := (blk_cell BK237.out 0).trans rfl
  have hcz8_1 : w5.cell? ⟨gb237, 1, none⟩ = some (.slice A0_1 l0_1.length c0_1) := (blk_cell BK237.out 1).trans rfl
  have hfz8_0 := blk_frozen BK237.out 0
  have hfz8_1 := blk_frozen BK237.out 1
  have hcz9_0 : w5.cell? ⟨gb238, 0, none⟩ = some (.int .i64 a1_0) := (blk_cell BK238.out 0).trans rfl
  have hcz9_1 : w5.cell? ⟨gb238, 1, none⟩ = some (.slice A1_1 l1_1.length c1_1) := (blk_cell BK238.out 1).trans rfl
  have hfz9_0 := blk_frozen BK238.out 0
  have hfz9_1 := blk_frozen BK238.out 1
  go_wp2
  repeat (go_quiet (fail); try go_wp2)
  go_meet
  case rel => exact ⟨_, (((l0_1.length : Int) != (l1_1.length : Int))), (by first | rfl | (simp; done) | (simp [*]; done) | (simp [ne_nil_bytes]; done) | (simp [eq_nil_bytes]; done)), H', ⟨by first | omega | exact Nat.le_refl _⟩, ⟨by exact bL BK237.out⟩, ⟨by exact bL BK238.out⟩, ⟨hL HB.out⟩⟩
 clear HC3
 try clear c1
 try clear p2
 try clear c6
 try clear c6b0
 try clear c6b0z
 try clear c6b1
 try clear c6b1z
 try clear c7
 try clear c10
 try clear hcz11_0
 try clear hcz11_1
 try clear hcz12_0
 try clear hcz12_1
 try clear hcz8_0
 try clear hcz8_1
 try clear hcz9_0
 try clear hcz9_1
 try clear hfz11_0
 try clear hfz11_1
 try clear hfz12_0
 try clear hfz12_1
 try clear hfz8_0
 try clear hfz8_1
 try clear hfz9_0
 try clear hfz9_1
 obtain ⟨kq, x19_2, rfl, HA, HJ2, BK237, BK238, HB⟩ := hcut
 rcases kq with _ | kj2
 ·exact absurd HA.out (by simp [shelfmarkref12_Same.j0])
 have H := HA.out
 clear HA
 simp only [shelfmarkref12_Same.j0] at H
 by_cases c13 : x19_2 = true
 ·subst c13
  have H1 : (some false) = some r := by rw [if_pos rfl] at H; exact H
  clear H
  have H := H1
  clear H1
  obtain rfl := Option.some.inj H
  simp only [Option.some.injEq, Prod.mk.injEq] at H
  obtain ⟨rfl⟩ := H
  go_wp2
  repeat (go_quiet (fail); try go_wp2)
  go_ret
  exact ⟨by first | rfl | (simp [errW_none, errW_some] <;> rfl) | (simp [*, errW_none, errW_some] <;> rfl), hL HB.out⟩
 replace c13 := Bool.eq_false_iff.mpr c13
 subst c13
 have H1 : (shelfmarkref12_Same.l0 kj2 0 a0_0 l0_1 a1_0 l1_1) = some r := by rw [if_neg (show ¬ (false = true) by decide)] at H; exact H
 clear H
 have H := H1
 clear H1
 have H' := Aside0.mk H
 clear H
 go_wp2
 repeat (go_quiet (fail); try go_wp2)
 go_loopg [5] kj2 (fun kq v5 w' => ∃ (x5_2 : Int), v5 = .int .i64 x5_2 ∧ Aside0 (shelfmarkref12_Same.l0 kq x5_2 a0_0 l0_1 a1_0 l1_1 = some r) ∧ Aside0 (kq ≤ kj2) ∧ Aside0 (w'.heap[gb237]? = some (.cells #[.int .i64 a0_0, (.slice A0_1 l0_1.length c0_1)] 24 (0, 0))) ∧ Aside0 (w'.heap[gb238]? = some (.cells #[.int .i64 a1_0, (.slice A1_1 l1_1.length c1_1)] 24 (0, 0))) ∧ Aside0 (Below w.heap.size w w'))
 case atStart => exact ⟨(0), (by first | rfl | (simp; done) | (simp [*]; done) | (simp [ne_nil_bytes]; done) | (simp [eq_nil_bytes]; done)), H', ⟨Nat.le_refl _⟩, ⟨by exact bL BK237.out⟩, ⟨by exact bL BK238.out⟩, ⟨hL HB.out⟩⟩
 clear H'
 try clear c1
 try clear p2
 try clear c6
 try clear c6b0
 try clear c6b0z
 try clear c6b1
 try clear c6b1z
 try clear c7
 try clear c10
 try clear c13
 try clear hcz11_0
 try clear hcz11_1
 try clear hcz12_0
 try clear hcz12_1
 try clear hcz8_0
 try clear hcz8_1
 try clear hcz9_0
 try clear hcz9_1
 try clear hfz11_0
 try clear hfz11_1
 try clear hfz12_0
 try clear hfz12_1
 try clear hfz8_0
 try clear hfz8_1
 try clear hfz9_0
 try clear hfz9_1
 try clear p2
 obtain ⟨x5_2, rfl, HA, HK2, BK237, BK238, HB⟩ := hrel
 rcases gk with _ | k2
 ·exact absurd HA.out (by simp [shelfmarkref12_Same.l0])
 have H := HA.out
 clear HA
 simp only [shelfmarkref12_Same.l0] at H
 by_cases c14 : x5_2 < (l0_1.length : Int)
 rotate_left
 ·rw [if_neg c14] at H
  have c14b0 : decide (x5_2 < (l0_1.length : Int)) = false := decide_eq_false c14
  clear c14
  obtain rfl := Option.some.inj H
  simp only [Option.some.injEq, Prod.mk.injEq] at H
  obtain ⟨rfl⟩ := H
  have hnb24 := NB237_238.out
  have hnc24 := NB238_237.out
  have hcz25_0 : wr.cell? ⟨gb237, 0, none⟩ = some (.int .i64 a0_0) := (blk_cell BK237.out 0).trans rfl
  have hcz25_1 : wr.cell? ⟨gb237, 1, none⟩ = some (.slice A0_1 l0_1.length c0_1) := (blk_cell BK237.out 1).trans rfl
  have hfz25_0 := blk_frozen BK237.out 0
  have hfz25_1 := blk_frozen BK237.out 1
  go_wp2
  repeat (go_quiet (fail); try go_wp2)
  go_ret
  exact ⟨by first | rfl | (simp [errW_none, errW_some] <;> rfl) | (simp [*, errW_none, errW_some] <;> rfl), hL HB.out⟩
 rw [if_pos c14] at H
 have c14b0 : decide (x5_2 < (l0_1.length : Int)) = true := decide_eq_true c14
 clear c14
 by_cases c15 : 0 ≤ x5_2
 rotate_left
 ·rw [if_neg c15] at H
  exact absurd H (by simp)
 rw [if_pos c15] at H
 have c15b0 : decide (0 ≤ x5_2) = true := decide_eq_true c15
 clear c15
 by_cases c16 : x5_2 < (l1_1.length : Int)
 rotate_left
 ·rw [if_neg c16] at H
  exact absurd H (by simp)
 rw [if_pos c16] at H
 have c16b0 : decide (x5_2 < (l1_1.length : Int)) = true := decide_eq_true c16
 clear c16
 by_cases c17 : (!((((rd_T46 l0_1 x5_2).f0).toList) == (((rd_T46 l1_1 x5_2).f0).toList)) || (!(((rd_T46 l0_1 x5_2).f1) == ((rd_T46 l1_1 x5_2).f1)))) = true
 ·rw [if_pos c17] at H
  have c17b0 : (!((((rd_T46 l0_1 x5_2).f0).toList) == (((rd_T46 l1_1 x5_2).f0).toList)) || (!(((rd_T46 l0_1 x5_2).f1) == ((rd_T46 l1_1 x5_2).f1)))) = true := c17
  clear c17
  obtain rfl := Option.some.inj H
  simp only [Option.some.injEq, Prod.mk.injEq] at H
  obtain ⟨rfl⟩ := H
  have hnb18 := NB237_238.out
  have hnc18 := NB238_237.out
  have hcz19_0 : wr.cell? ⟨gb237, 0, none⟩ = some (.int .i64 a0_0) := (blk_cell BK237.out 0).trans rfl
  have hcz19_1 : wr.cell? ⟨gb237, 1, none⟩ = some (.slice A0_1 l0_1.length c0_1) := (blk_cell BK237.out 1).trans rfl
  have hfz19_0 := blk_frozen BK237.out 0
  have hfz19_1 := blk_frozen BK237.out 1
  have p239 : 0 ≤ (x5_2 : Int) := of_decide_eq_true (by first | (with_reducible assumption) | assumption)
  have q239 : x5_2 < (l0_1.length : Int) := of_decide_eq_true (by first | (with_reducible assumption) | assumption)
  obtain ⟨ad239, e239, hx239_0, hx239_1⟩ := at_T46 HR0_1.out x5_2 p239 q239
  cases e239
  replace hx239_0 := (HB.out.cell (World.block_lt_of_cell? w _ hx239_0)).trans hx239_0
  replace hx239_1 := (HB.out.cell (World.block_lt_of_cell? w _ hx239_1)).trans hx239_1
  replace p239 := eq_true p239
  replace q239 := eq_true q239
  have hcz20_0 : wr.cell? ⟨gb238, 0, none⟩ = some (.int .i64 a1_0) := (blk_cell BK238.out 0).trans rfl
  have hcz20_1 : wr.cell? ⟨gb238, 1, none⟩ = some (.slice A1_1 l1_1.length c1_1) := (blk_cell BK238.out 1).trans rfl
  have hfz20_0 := blk_frozen BK238.out 0
  have hfz20_1 := blk_frozen BK238.out 1
  have p240 : 0 ≤ (x5_2 : Int) := of_decide_eq_true (by first | (with_reducible assumption) | assumption)
  have q240 : x5_2 < (l1_1.length : Int) := of_decide_eq_true (by first | (with_reducible assumption) | assumption)
  obtain ⟨ad240, e240, hx240_0, hx240_1⟩ := at_T46 HR1_1.out x5_2 p240 q240
  cases e240
  replace hx240_0 := (HB.out.cell (World.block_lt_of_cell? w _ hx240_0)).trans hx240_0
  replace hx240_1 := (HB.out.cell (World.block_lt_of_cell? w _ hx240_1)).trans hx240_1
  replace p240 := eq_true p240
  replace q240 := eq_true q240
  go_wp2
  repeat (go_quiet (fail); try go_wp2)
  go_ret
  exact ⟨by first | rfl | (simp [errW_none, errW_some] <;> rfl) | (simp [*, errW_none, errW_some] <;> rfl), hL HB.out⟩
 rw [if_neg c17] at H
 have c17b0 : (!((((rd_T46 l0_1 x5_2).f0).toList) == (((rd_T46 l1_1 x5_2).f0).toList)) || (!(((rd_T46 l0_1 x5_2).f1) == ((rd_T46 l1_1 x5_2).f1)))) = false := by simpa using c17
 clear c17
 have H' := Aside0.mk H
 clear H
 have hnb21 := NB237_238.out
 have hnc21 := NB238_237.out
 have hcz22_0 : wr.cell? ⟨gb237, 0, none⟩ = some (.int .i64 a0_0) := (blk_cell BK237.out 0).trans rfl
 have hcz22_1 : wr.cell? ⟨gb237, 1, none⟩ = some (.slice A0_1 l0_1.length c0_1) := (blk_cell BK237.out 1).trans rfl
 have hfz22_0 := blk_frozen BK237.out 0
 have hfz22_1 := blk_frozen BK237.out 1
 have p239 : 0 ≤ (x5_2 : Int) := of_decide_eq_true (by first | (with_reducible assumption) | assumption)
 have q239 : x5_2 < (l0_1.length : Int) := of_decide_eq_true (by first | (with_reducible assumption) | assumption)
 obtain ⟨ad239, e239, hx239_0, hx239_1⟩ := at_T46 HR0_1.out x5_2 p239 q239
 cases e239
 replace hx239_0 := (HB.out.cell (World.block_lt_of_cell? w _ hx239_0)).trans hx239_0
 replace hx239_1 := (HB.out.cell (World.block_lt_of_cell? w _ hx239_1)).trans hx239_1
 replace p239 := eq_true p239
 replace q239 := eq_true q239
 have hcz23_0 : wr.cell? ⟨gb238, 0, none⟩ = some (.int .i64 a1_0) := (blk_cell BK238.out 0).trans rfl
 have hcz23_1 : wr.cell? ⟨gb238, 1, none⟩ = some (.slice A1_1 l1_1.length c1_1) := (blk_cell BK238.out 1).trans rfl
 have hfz23_0 := blk_frozen BK238.out 0
 have hfz23_1 := blk_frozen BK238.out 1
 have p240 : 0 ≤ (x5_2 : Int) := of_decide_eq_true (by first | (with_reducible assumption) | assumption)
 have q240 : x5_2 < (l1_1.length : Int) := of_decide_eq_true (by first | (with_reducible assumption) | assumption)
 obtain ⟨ad240, e240, hx240_0, hx240_1⟩ := at_T46 HR1_1.out x5_2 p240 q240
 cases e240
 replace hx240_0 := (HB.out.cell (World.block_lt_of_cell? w _ hx240_0)).trans hx240_0
 replace hx240_1 := (HB.out.cell (World.block_lt_of_cell? w _ hx240_1)).trans hx240_1
 replace p240 := eq_true p240
 replace q240 := eq_true q240
 go_wp2
 repeat (go_quiet (fail); try go_wp2)
 go_roundg k2
 case measure => have := HJ2.out; have := HK2.out; omega
 case rel => exact ⟨(wrap64 (x5_2 + 1)), (by first | rfl | (simp; done) | (simp [*]; done) | (simp [ne_nil_bytes]; done) | (simp [eq_nil_bytes]; done)), H', ⟨by have := HJ2.out; have := HK2.out; omega⟩, ⟨by exact bL BK237.out⟩, ⟨by exact bL BK238.out⟩, ⟨hL HB.out⟩⟩

end Go.Proofs.Ytmgjccpolkhhhaa.PAll
