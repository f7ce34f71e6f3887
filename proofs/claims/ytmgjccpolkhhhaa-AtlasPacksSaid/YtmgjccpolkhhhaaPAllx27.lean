-- Written by a program of this session for this claim (mp.py, over the kit's print); Lean checks it.
import Derived.Test.YtmgjccpolkhhhaaPAllx0
import Derived.Test.YtmgjccpolkhhhaaPAllx4
import Derived.Test.YtmgjccpolkhhhaaPAllx26
namespace Go.Proofs.Ytmgjccpolkhhhaa.PAll
open Go.RowKit Go.Proofs.YtmgjccpolkhhhaaW.PrintWords Go.Proofs.YtmgjccpolkhhhaaW.PrintLast Go.Proofs.YtmgjccpolkhhhaaW.PrintMore Go.Proofs.Ytmgjccpolkhhhaa.Fv Go.Proofs.Ytmgjccpolkhhhaa.Hl
attribute [local go_sem] max2_int min2_int max_two min_two max_three min_three max_four min_four str_gtr str_leq str_geq cell_set2   -- for this text's walks alone
set_option linter.unusedVariables false
set_option linter.unusedSimpArgs false

/-! ### atlas_Unpack: function 27 -/
mutual
def atlas_Unpack.j0 : Nat → Int → Bool → Int → List (S46) → Option (Int × (List (S46)) × Int)
 | 0, _, _, _, _ => none
 | k + 1, x6, x21, x516000, x516001 => if x21 = true then (atlas_Unpack.j1 k 3 x516000 x516001) else (atlas_Unpack.j1 k x6 x516000 x516001)
def atlas_Unpack.j1 : Nat → Int → Int → List (S46) → Option (Int × (List (S46)) × Int)
 | 0, _, _, _ => none
 | k + 1, x6, x516000, x516001 => if x6 = 0 then ((atlas_Check.f k x516000 x516001).bind fun t516 => (if t516 = 0 then (some (x516000, x516001, 0)) else (some (0, ([] : List (S46)), t516)))) else (some (0, ([] : List (S46)), x6))
end
def atlas_Unpack.f (k : Nat) (a0 : ByteArray) : Option (Int × (List (S46)) × Int) := if a0.size ≤ 140737488351232 then ((atlas_read.f k (bytesOf a0)).bind fun bt509 => (if bt509.2.2.2 = 0 then (atlas_Unpack.j0 k bt509.2.2.2 (bt509.2.2.1 != (a0.size : Int)) bt509.1 bt509.2.1) else (atlas_Unpack.j0 k bt509.2.2.2 false bt509.1 bt509.2.1))) else (none)
theorem atlas_Unpack.mono_l : ∀ k, (∀ y0 y1 y2 y3, LeO (atlas_Unpack.j0 k y0 y1 y2 y3) (atlas_Unpack.j0 (k + 1) y0 y1 y2 y3)) ∧ (∀ y0 y1 y2, LeO (atlas_Unpack.j1 k y0 y1 y2) (atlas_Unpack.j1 (k + 1) y0 y1 y2))
 | 0 => ⟨fun _ _ _ _ r h => by simp [atlas_Unpack.j0] at h, fun _ _ _ r h => by simp [atlas_Unpack.j1] at h⟩
 | k + 1 => by
  obtain ⟨ih0, ih1⟩ := atlas_Unpack.mono_l k
  refine ⟨?_, ?_⟩
  ·intro y0 y1 y2 y3
   unfold atlas_Unpack.j0
   repeat' first
   | (with_reducible exact ih0 _ _ _ _)
   | (with_reducible exact ih1 _ _ _)
   | (with_reducible exact atlas_Check.mono _ _ _)
   | (with_reducible exact atlas_read.mono _ _)
   | (with_reducible exact LeO.refl _)
   | (with_reducible exact LeO.none _)
   | (with_reducible refine LeO.ite ?_ ?_)
   | (with_reducible refine LeO.bind ?_ (fun _ => ?_))
   | exact ih0 _ _ _ _
   | exact ih1 _ _ _
   | exact atlas_Check.mono _ _ _
   | exact atlas_read.mono _ _
   | exact LeO.none _
   | refine LeO.ite ?_ ?_
   | refine LeO.bind ?_ (fun _ => ?_)
  ·intro y0 y1 y2
   unfold atlas_Unpack.j1
   repeat' first
   | (with_reducible exact ih0 _ _ _ _)
   | (with_reducible exact ih1 _ _ _)
   | (with_reducible exact atlas_Check.mono _ _ _)
   | (with_reducible exact atlas_read.mono _ _)
   | (with_reducible exact LeO.refl _)
   | (with_reducible exact LeO.none _)
   | (with_reducible refine LeO.ite ?_ ?_)
   | (with_reducible refine LeO.bind ?_ (fun _ => ?_))
   | exact ih0 _ _ _ _
   | exact ih1 _ _ _
   | exact atlas_Check.mono _ _ _
   | exact atlas_read.mono _ _
   | exact LeO.none _
   | refine LeO.ite ?_ ?_
   | refine LeO.bind ?_ (fun _ => ?_)
theorem atlas_Unpack.mono : ∀ a0 k, LeO (atlas_Unpack.f k a0) (atlas_Unpack.f (k + 1) a0) := by
 intro a0 k
 obtain ⟨ih0, ih1⟩ := atlas_Unpack.mono_l k
 unfold atlas_Unpack.f
 repeat' first
   | (with_reducible exact ih0 _ _ _ _)
   | (with_reducible exact ih1 _ _ _)
   | (with_reducible exact atlas_Check.mono _ _ _)
   | (with_reducible exact atlas_read.mono _ _)
   | (with_reducible exact LeO.refl _)
   | (with_reducible exact LeO.none _)
   | (with_reducible refine LeO.ite ?_ ?_)
   | (with_reducible refine LeO.bind ?_ (fun _ => ?_))
   | exact ih0 _ _ _ _
   | exact ih1 _ _ _
   | exact atlas_Check.mono _ _ _
   | exact atlas_read.mono _ _
   | exact LeO.none _
   | refine LeO.ite ?_ ?_
   | refine LeO.bind ?_ (fun _ => ?_)
set_option maxHeartbeats 8000000 in
set_option maxRecDepth 100000 in
theorem atlas_Unpack.calls (k : Nat) (a0 : ByteArray) (r1 : Int) (r2 : List (S46)) (r3 : Int) (w : World) (h : atlas_Unpack.f k a0 = some (r1, r2, r3)) :
  Calls Try.prog 27 #[.string a0] w fun e w' => ∃ v1_ : Value, e = .returned (.tuple #[.agg #[.int .i64 r1, v1_], .int .i64 r3]) ∧ Kd.R k46 46 w' w.heap.size (fun _ => True) v1_ r2 ∧ Below w.heap.size w w' := by
 have hu24 := Try.underlying24
 have HB := Aside0.mk (Below.refl w.heap.size w)
 have H : (if a0.size ≤ 140737488351232 then ((atlas_read.f k (bytesOf a0)).bind fun bt509 => (if bt509.2.2.2 = 0 then (atlas_Unpack.j0 k bt509.2.2.2 (bt509.2.2.1 != (a0.size : Int)) bt509.1 bt509.2.1) else (atlas_Unpack.j0 k bt509.2.2.2 false bt509.1 bt509.2.1))) else (none)) = some (r1, r2, r3) := h
 clear h
 by_cases c2 : a0.size ≤ 140737488351232
 ·rw [if_pos c2] at H
  have c2b0 := eq_true c2
  have c2b1 : decide (a0.size ≤ 140737488351232) = true := decide_eq_true c2
  clear c2
  obtain ⟨y506, hy506⟩ : ∃ y_ : List Int, y_ = (bytesOf a0) := ⟨_, rfl⟩
  replace H : ((atlas_read.f k y506).bind fun bt509 => (if bt509.2.2.2 = 0 then (atlas_Unpack.j0 k bt509.2.2.2 (bt509.2.2.1 != (a0.size : Int)) bt509.1 bt509.2.1) else (atlas_Unpack.j0 k bt509.2.2.2 false bt509.1 bt509.2.1))) = some (r1, r2, r3) := by first | (rw [hy506]; with_reducible exact H) | (have H2_ := (Option.bind_some _ _).symm.trans H; rw [hy506]; with_reducible exact H2_) | (have H2_ := (Option.bind_some _ _).symm.trans H; with_reducible exact H2_) | with_reducible exact H | (rw [hy506]; exact H) | exact H
  have Ny506 := Aside0.mk hy506
  clear hy506
  replace H := Option.bind_eq_some_iff.mp H
  obtain ⟨⟨t509, t510, t513, t514⟩, A30, H⟩ := H
  replace H : (if t514 = 0 then (atlas_Unpack.j0 k t514 (t513 != (a0.size : Int)) t509 t510) else (atlas_Unpack.j0 k t514 false t509 t510)) = some (r1, r2, r3) := H
  have A3 := Aside0.mk A30
  clear A30
  have HC4 := Aside0.mk H
  clear H
  go_enter Try.func27, Try.ntmps27
  go_upto_region 2 with (first | ((with_reducible refine gate_dst (N := 2) rfl ?_); (try (refine gate_guard (by rfl) ?_; dsimp only)); refine box_event ?hg (N := 2) ?hd (cs := #[.int .i64 0, .slice none 0 0]) (t := 24) ?hr ?_; (case hd => rfl); (case hg => rfl); (case hr => first | (go_simp; done) | (go_simp; rfl)); intro gb505 hg w5 hbox hb; have n0_ := Aside0.mk (below_step (hL HB.out) hb); have n1_ := Aside0.mk (hbox); have n2_ := Above.mk ((by rw [hg]; exact (below_size (hL HB.out)) : w.heap.size ≤ gb505)); have n3_ := Above.mk ((by rw [hg]; exact (below_size (hL HB.out)) : w.heap.size ≤ gb505)); clear HB; have HB := n0_; have BK505 := n1_; have GW505 := n2_; have GE505 := n3_; clear n0_ n1_ n2_ n3_; clear hb hbox hg) | ((with_reducible refine gate_dst (N := 9) rfl ?_); (try (refine gate_guard (by rfl) ?_; dsimp only)); refine V_bytes _ 5 rfl (N' := 9) rfl 9 59 _ rfl a0 rfl Try.underlying9 Try.underlying59 Try.underlying5 (of_decide_eq_true (by first | (with_reducible assumption) | assumption)) (Below.refl _ _) (Nat.le_refl _) ?_; intro v507 w6 ho7 hb hg_ hnew_; clear hg_ hnew_; (first | rw [← Ny506.out] at ho7 | (simp only [Int.reduceToNat] at ho7; rw [← Ny506.out] at ho7)); have n0_ := Aside0.mk (Kd.V_lower (Kd.V_mono (ok' := fun k_ => k_ ≠ gb505) ho7 (fun k_ hk_ => (Kd.freshB (g := gb505) (o := .cells #[.int .i64 0, .slice none 0 0] 24 (0, 0)) (bL BK505.out) k_ hk_))) (below_size (hL HB.out))); have n1_ := Aside0.mk (blk_below BK505.out hb); have n2_ := Aside0.mk (below_step (hL HB.out) hb); clear BK505; clear HB; have HO508 := n0_; have BK505 := n1_; have HB := n2_; clear n0_ n1_ n2_; clear hb ho7; obtain ⟨Ao8, co8, eo8⟩ := Kd.V_slice HO508.out; subst eo8) | ((with_reducible refine gate_callee (f := 48) rfl ?_); refine goesL_ (some 10) rfl rfl Try.func48 (by kernel_rfl) rfl #[.slice Ao8 y506.length co8] rfl (by (try simp only [List.map_toArray, List.map_cons, List.map_nil]); first | done | rfl | (simp only [List.length_drop, List.length_take]; rfl)) ?_; (with_reducible refine (atlas_read.calls k _ _ y506 t509 t510 t513 t514 _ ?side1 ?side2 A3.out).mono ?_); (case side1 => repeat (first | exact (Kd.V_reads' HO508.out).2.2 | (with_reducible refine Kd.C_alloc ?_ _) | (with_reducible refine Kd.C_drewN ?_ _) | (with_reducible refine Kd.C_drew ?_))); (case side2 => exact (Kd.V_reads' HO508.out).2.1); rintro e w9 ⟨v511, rfl, ho0, hb⟩; refine ⟨_, rfl, ?_⟩; have n0_ := Aside0.mk (Kd.V_elder' (vL HO508.out) (Kd.R_base ho0) hb); have n1_ := Aside0.mk (Kd.R_lower ho0 (below_size (hL HB.out))); have n2_ := Aside0.mk (blk_below BK505.out hb); have n3_ := Aside0.mk (below_step (hL HB.out) hb); clear HO508; clear BK505; clear HB; have HO508 := n0_; have HO512 := n1_; have BK505 := n2_; have HB := n3_; clear n0_ n1_ n2_ n3_; (try clear hb); (try clear hb2); (try clear hk); (try clear hi); (try clear ho0)) | ((with_reducible refine gate_dst (N := 4) rfl ?_); (try (refine gate_guard (by rfl) ?_; dsimp only)); refine box_event ?hg (N := 4) ?hd (cs := #[.int .i64 0, .slice none 0 0]) (t := 24) ?hr ?_; (case hd => rfl); (case hg => rfl); (case hr => first | (go_simp; done) | (go_simp; rfl)); intro gb515 hg w10 hbox hb; have n0_ := Aside0.mk (Kd.V_below (Kd.V_elderB (vL HO508.out) gb515 (Nat.le_of_eq hg.symm)) hb); have n1_ := Aside0.mk (Kd.R_below (rL HO512.out) hb); have n2_ := Aside0.mk (blk_below BK505.out hb); have n3_ := Aside0.mk (below_step (hL HB.out) hb); have n4_ := Aside0.mk (hbox); have n5_ := Above.mk ((by rw [hg]; exact (below_size (hL HB.out)) : w.heap.size ≤ gb515)); have n6_ := Above.mk ((by rw [hg]; exact (below_size (hL HB.out)) : w.heap.size ≤ gb515)); have n7_ := Aside0.mk ((by rw [hg]; exact Nat.ne_of_lt (blk_lt (g := gb505) (o := .cells #[.int .i64 0, .slice none 0 0] 24 (0, 0)) (bL BK505.out)) : gb505 ≠ gb515)); have n8_ := Aside0.mk ((by rw [hg]; exact Nat.ne_of_gt (blk_lt (g := gb505) (o := .cells #[.int .i64 0, .slice none 0 0] 24 (0, 0)) (bL BK505.out)) : gb515 ≠ gb505)); clear HO508; clear HO512; clear BK505; clear HB; have HO508 := n0_; have HO512 := n1_; have BK505 := n2_; have HB := n3_; have BK515 := n4_; have GW515 := n5_; have GE515 := n6_; have NB505_515 := n7_; have NB515_505 := n8_; clear n0_ n1_ n2_ n3_ n4_ n5_ n6_ n7_ n8_; clear hb hbox hg; have hnb11 := NB515_505.out; have hnc11 := NB505_515.out; have hcz12_0 : w10.cell? ⟨gb515, 0, none⟩ = some (.int .i64 0) := (blk_cell BK515.out 0).trans rfl; have hcz12_1 : w10.cell? ⟨gb515, 1, none⟩ = some (.slice none 0 0) := (blk_cell BK515.out 1).trans rfl; have hfz12_0 := blk_frozen BK515.out 0; have hfz12_1 := blk_frozen BK515.out 1; obtain ⟨Ao13, co13, eo13⟩ := Kd.R_slice HO512.out; subst eo13))
  (try simp only [Act.put, List.setIfInBounds_toArray, List.set_cons_zero, List.set_cons_succ])
  go_cut [21] (fun v21 wc => ∃ (kq : Nat) (x21_3 : Bool), v21 = .bool x21_3 ∧ Aside0 (atlas_Unpack.j0 kq t514 x21_3 t509 t510 = some (r1, r2, r3)) ∧ Aside0 (kq ≤ k) ∧ Aside0 (Kd.R k46 46 wc w.heap.size (fun _ => True) (.slice Ao13 t510.length co13) t510) ∧ Aside0 (wc.heap[gb505]? = some (.cells #[.int .i64 0, (.slice none 0 0)] 24 (0, 0))) ∧ Aside0 (wc.heap[gb515]? = some (.cells #[.int .i64 t509, (.slice Ao13 t510.length co13)] 24 (0, 0))) ∧ Aside0 (Below w.heap.size w wc))
  case first =>
   have H := HC4.out
   clear HC4
   by_cases c14 : t514 = 0
   ·rw [if_pos c14] at H
    have c14b0 : (t514 == 0) = true := beq_iff_eq.mpr c14
    have c14b1 : (t514 != 0) = false := bne_eq_false_iff_eq.mpr c14
    clear c14
    (first | rw [c14b0] | (simp only [i64_w, i32_w]; rw [c14b0]) | skip)
    have H' := Aside0.mk H
    clear H
    go_wp2
    go_meet
    case rel => exact ⟨_, ((t513 != (a0.size : Int))), (by first | rfl | (simp; done) | (simp [*]; done) | (simp [ne_nil_bytes]; done) | (simp [eq_nil_bytes]; done)), H', ⟨by first | omega | exact Nat.le_refl _⟩, ⟨by (with_reducible repeat (first | apply Kd.R_alloc | apply Kd.R_drewN | apply Kd.R_drew)); exact Kd.R_mono (Kd.R_far (p := ⟨gb515, 1, none⟩) (Kd.R_far (p := ⟨gb515, 0, none⟩) (Kd.R_types HO512.out BK515.out (by decide)) (fun _ hk => hk.2) (.int .i64 t509)) (fun _ hk => hk.2) (.slice Ao13 t510.length co13)) (fun _ hk => trivial)⟩, ⟨by (with_reducible repeat (first | refine blk_drewN ?_ _ | refine blk_drew ?_ | refine blk_alloc ?_ _)); refine blk_far ?_ NB505_515.out _; (with_reducible repeat (first | refine blk_drewN ?_ _ | refine blk_drew ?_ | refine blk_alloc ?_ _)); refine blk_far ?_ NB505_515.out _; exact bL BK505.out⟩, ⟨by (with_reducible repeat (first | refine blk_drewN ?_ _ | refine blk_drew ?_ | refine blk_alloc ?_ _)); refine blk_put (cs := #[.int .i64 t509, .slice none 0 0]) ?_ 1 _ rfl; (with_reducible repeat (first | refine blk_drewN ?_ _ | refine blk_drew ?_ | refine blk_alloc ?_ _)); refine blk_put (cs := #[.int .i64 0, .slice none 0 0]) ?_ 0 _ rfl; exact bL BK515.out⟩, ⟨hL HB.out⟩⟩
   ·rw [if_neg c14] at H
    have c14b0 : (t514 == 0) = false := beq_eq_false_iff_ne.mpr c14
    have c14b1 : (t514 != 0) = true := bne_iff_ne.mpr c14
    (first | rw [c14b0] | (simp only [i64_w, i32_w]; rw [c14b0]) | skip)
    have H' := Aside0.mk H
    clear H
    go_wp2
    go_meet
    case rel => exact ⟨_, (false), (by first | rfl | (simp; done) | (simp [*]; done) | (simp [ne_nil_bytes]; done) | (simp [eq_nil_bytes]; done)), H', ⟨by first | omega | exact Nat.le_refl _⟩, ⟨by (with_reducible repeat (first | apply Kd.R_alloc | apply Kd.R_drewN | apply Kd.R_drew)); exact Kd.R_mono (Kd.R_far (p := ⟨gb515, 1, none⟩) (Kd.R_far (p := ⟨gb515, 0, none⟩) (Kd.R_types HO512.out BK515.out (by decide)) (fun _ hk => hk.2) (.int .i64 t509)) (fun _ hk => hk.2) (.slice Ao13 t510.length co13)) (fun _ hk => trivial)⟩, ⟨by (with_reducible repeat (first | refine blk_drewN ?_ _ | refine blk_drew ?_ | refine blk_alloc ?_ _)); refine blk_far ?_ NB505_515.out _; (with_reducible repeat (first | refine blk_drewN ?_ _ | refine blk_drew ?_ | refine blk_alloc ?_ _)); refine blk_far ?_ NB505_515.out _; exact bL BK505.out⟩, ⟨by (with_reducible repeat (first | refine blk_drewN ?_ _ | refine blk_drew ?_ | refine blk_alloc ?_ _)); refine blk_put (cs := #[.int .i64 t509, .slice none 0 0]) ?_ 1 _ rfl; (with_reducible repeat (first | refine blk_drewN ?_ _ | refine blk_drew ?_ | refine blk_alloc ?_ _)); refine blk_put (cs := #[.int .i64 0, .slice none 0 0]) ?_ 0 _ rfl; exact bL BK515.out⟩, ⟨hL HB.out⟩⟩
  case rest =>
   clear HC4
   try clear c1
   try clear c2
   try clear c2b0
   try clear c2b0z
   try clear c2b1
   try clear c2b1z
   try clear p2
   try clear c4
   try clear c11
   try clear c14
   try clear c14b0
   try clear c14b0z
   try clear c14b1
   try clear c14b1z
   try clear hcz12_0
   try clear hcz12_1
   try clear hfz12_0
   try clear hfz12_1
   obtain ⟨kq, x21_3, rfl, HA, HJ3, HO_516001, BK505, BK515, HB⟩ := hcut
   cases kq with
   | zero => exact absurd HA.out (by simp [atlas_Unpack.j0])
   | succ kj3 =>
    have H := HA.out
    clear HA
    simp only [atlas_Unpack.j0] at H
    have HC15 := Aside0.mk H
    clear H
    go_upto_if 21 with (fail)
    go_cut [6] (fun v6 wc => ∃ (kq : Nat) (x6_14 : Int), v6 = .int .i64 x6_14 ∧ Aside0 (atlas_Unpack.j1 kq x6_14 t509 t510 = some (r1, r2, r3)) ∧ Aside0 (kq ≤ kj3) ∧ Aside0 (Kd.R k46 46 wc w.heap.size (fun _ => True) (.slice Ao13 t510.length co13) t510) ∧ Aside0 (wc.heap[gb505]? = some (.cells #[.int .i64 0, (.slice none 0 0)] 24 (0, 0))) ∧ Aside0 (wc.heap[gb515]? = some (.cells #[.int .i64 t509, (.slice Ao13 t510.length co13)] 24 (0, 0))) ∧ Aside0 (Below w.heap.size w wc))
    case first =>
     have H := HC15.out
     clear HC15
     by_cases c16 : x21_3 = true
     ·subst c16
      have H1 : (atlas_Unpack.j1 kj3 3 t509 t510) = some (r1, r2, r3) := by rw [if_pos rfl] at H; exact H
      clear H
      have H := H1
      clear H1
      have H' := Aside0.mk H
      clear H
      go_wp2
      go_meet
      case rel => exact ⟨_, (3), (by first | rfl | (simp; done) | (simp [*]; done) | (simp [ne_nil_bytes]; done) | (simp [eq_nil_bytes]; done)), H', ⟨by have := HJ3.out; first | omega | exact Nat.le_refl _⟩, ⟨by exact rL HO_516001.out⟩, ⟨by exact bL BK505.out⟩, ⟨by exact bL BK515.out⟩, ⟨hL HB.out⟩⟩
     ·replace c16 := Bool.eq_false_iff.mpr c16
      subst c16
      have H1 : (atlas_Unpack.j1 kj3 t514 t509 t510) = some (r1, r2, r3) := by rw [if_neg (show ¬ (false = true) by decide)] at H; exact H
      clear H
      have H := H1
      clear H1
      have H' := Aside0.mk H
      clear H
      go_wp2
      go_meet
      case rel => exact ⟨_, (t514), (by first | rfl | (simp; done) | (simp [*]; done) | (simp [ne_nil_bytes]; done) | (simp [eq_nil_bytes]; done)), H', ⟨by have := HJ3.out; first | omega | exact Nat.le_refl _⟩, ⟨by exact rL HO_516001.out⟩, ⟨by exact bL BK505.out⟩, ⟨by exact bL BK515.out⟩, ⟨hL HB.out⟩⟩
    case rest =>
     clear HC15
     try clear c1
     try clear c2
     try clear c2b0
     try clear c2b0z
     try clear c2b1
     try clear c2b1z
     try clear p2
     try clear c4
     try clear c11
     try clear c14
     try clear c14b0
     try clear c14b0z
     try clear c14b1
     try clear c14b1z
     try clear c16
     try clear hcz12_0
     try clear hcz12_1
     try clear hfz12_0
     try clear hfz12_1
     try clear p2
     obtain ⟨kq, x6_14, rfl, HA, HJ14, HO_516001, BK505, BK515, HB⟩ := hcut
     cases kq with
     | zero => exact absurd HA.out (by simp [atlas_Unpack.j1])
     | succ kj14 =>
      have H := HA.out
      clear HA
      simp only [atlas_Unpack.j1] at H
      by_cases c17 : x6_14 = 0
      ·rw [if_pos c17] at H
       have c17b0 : (x6_14 == 0) = true := beq_iff_eq.mpr c17
       have c17b1 : (x6_14 != 0) = false := bne_eq_false_iff_eq.mpr c17
       clear c17
       replace H := Option.bind_eq_some_iff.mp H
       obtain ⟨t516, A180, H⟩ := H
       replace H : (if t516 = 0 then (some (t509, t510, 0)) else (some (0, ([] : List (S46)), t516))) = some (r1, r2, r3) := H
       have A18 := Aside0.mk A180
       clear A180
       by_cases c19 : t516 = 0
       ·rw [if_pos c19] at H
        have c19b0 : (t516 == 0) = true := beq_iff_eq.mpr c19
        have c19b1 : (t516 != 0) = false := bne_eq_false_iff_eq.mpr c19
        clear c19
        simp only [Option.some.injEq, Prod.mk.injEq] at H
        obtain ⟨rfl, rfl, rfl⟩ := H
        have hnb20 := NB515_505.out
        have hnc20 := NB505_515.out
        have hcz21_0 : wc.cell? ⟨gb515, 0, none⟩ = some (.int .i64 t509) := (blk_cell BK515.out 0).trans rfl
        have hcz21_1 : wc.cell? ⟨gb515, 1, none⟩ = some (.slice Ao13 t510.length co13) := (blk_cell BK515.out 1).trans rfl
        have hfz21_0 := blk_frozen BK515.out 0
        have hfz21_1 := blk_frozen BK515.out 1
        go_wp2_with (first | ((with_reducible refine gate_callee (f := 17) rfl ?_); refine goesL_ (some 25) rfl rfl Try.func17 (by kernel_rfl) rfl #[.agg #[.int .i64 t509, .slice Ao13 t510.length co13]] rfl (by (try simp only [List.map_toArray, List.map_cons, List.map_nil]); first | done | rfl | (simp only [List.length_drop, List.length_take]; rfl)) ?_; (with_reducible refine (atlas_Check.calls kj14 t509 _ _ t510 t516 _ ?side1 ?side2 A18.out).mono ?_); (case side1 => repeat (first | exact (Kd.R_reads' HO_516001.out).2.2 | (with_reducible refine Kd.C_alloc ?_ _) | (with_reducible refine Kd.C_drewN ?_ _) | (with_reducible refine Kd.C_drew ?_))); (case side2 => exact (Kd.R_reads' HO_516001.out).2.1); rintro e w22 ⟨rfl, hb⟩; refine ⟨_, rfl, ?_⟩; have n0_ := Aside0.mk (Kd.R_below (rL HO_516001.out) hb); have n1_ := Aside0.mk (blk_below BK505.out hb); have n2_ := Aside0.mk (blk_below BK515.out hb); have n3_ := Aside0.mk (below_step (hL HB.out) hb); clear HO_516001; clear BK505; clear BK515; clear HB; have HO_516001 := n0_; have BK505 := n1_; have BK515 := n2_; have HB := n3_; clear n0_ n1_ n2_ n3_; (try clear hb); (try clear hb2); (try clear hk); (try clear hi); have hcz23_0 : w22.cell? ⟨gb515, 0, none⟩ = some (.int .i64 t509) := (blk_cell BK515.out 0).trans rfl; have hcz23_1 : w22.cell? ⟨gb515, 1, none⟩ = some (.slice Ao13 t510.length co13) := (blk_cell BK515.out 1).trans rfl; have hfz23_0 := blk_frozen BK515.out 0; have hfz23_1 := blk_frozen BK515.out 1; have hcz24_0 : w22.cell? ⟨gb505, 0, none⟩ = some (.int .i64 0) := (blk_cell BK505.out 0).trans rfl; have hcz24_1 : w22.cell? ⟨gb505, 1, none⟩ = some (.slice none 0 0) := (blk_cell BK505.out 1).trans rfl; have hfz24_0 := blk_frozen BK505.out 0; have hfz24_1 := blk_frozen BK505.out 1))
        refine bodyPost_ret (results_ct rfl _ _ gb505 24 #[.int .i64 t509, .slice Ao13 t510.length co13] (0, 0) _ rfl (by (with_reducible repeat (first | refine blk_drewN ?_ _ | refine blk_drew ?_ | refine blk_alloc ?_ _)); refine blk_put (cs := #[.int .i64 t509, .slice none 0 0]) ?_ 1 _ rfl; (with_reducible repeat (first | refine blk_drewN ?_ _ | refine blk_drew ?_ | refine blk_alloc ?_ _)); refine blk_put (cs := #[.int .i64 0, .slice none 0 0]) ?_ 0 _ rfl; exact bL BK505.out) Try.underlying24 rfl (by kernel_rfl)) rfl ?_
        exact ⟨_, by first | rfl | (simp [errW_none, errW_some] <;> rfl) | (simp [*, errW_none, errW_some] <;> rfl), by (with_reducible repeat (first | apply Kd.R_alloc | apply Kd.R_drewN | apply Kd.R_drew)); exact Kd.R_mono (Kd.R_far (p := ⟨gb505, 1, none⟩) (Kd.R_far (p := ⟨gb505, 0, none⟩) (Kd.R_types HO_516001.out BK505.out (by decide)) (fun _ hk => hk.2) (.int .i64 t509)) (fun _ hk => hk.2) (.slice Ao13 t510.length co13)) (fun _ hk => trivial), hL HB.out⟩
       ·rw [if_neg c19] at H
        have c19b0 : (t516 == 0) = false := beq_eq_false_iff_ne.mpr c19
        have c19b1 : (t516 != 0) = true := bne_iff_ne.mpr c19
        simp only [Option.some.injEq, Prod.mk.injEq] at H
        obtain ⟨rfl, rfl, rfl⟩ := H
        have hnb25 := NB515_505.out
        have hnc25 := NB505_515.out
        have hcz26_0 : wc.cell? ⟨gb515, 0, none⟩ = some (.int .i64 t509) := (blk_cell BK515.out 0).trans rfl
        have hcz26_1 : wc.cell? ⟨gb515, 1, none⟩ = some (.slice Ao13 t510.length co13) := (blk_cell BK515.out 1).trans rfl
        have hfz26_0 := blk_frozen BK515.out 0
        have hfz26_1 := blk_frozen BK515.out 1
        go_wp2_with (first | ((with_reducible refine gate_callee (f := 17) rfl ?_); refine goesL_ (some 25) rfl rfl Try.func17 (by kernel_rfl) rfl #[.agg #[.int .i64 t509, .slice Ao13 t510.length co13]] rfl (by (try simp only [List.map_toArray, List.map_cons, List.map_nil]); first | done | rfl | (simp only [List.length_drop, List.length_take]; rfl)) ?_; (with_reducible refine (atlas_Check.calls kj14 t509 _ _ t510 t516 _ ?side1 ?side2 A18.out).mono ?_); (case side1 => repeat (first | exact (Kd.R_reads' HO_516001.out).2.2 | (with_reducible refine Kd.C_alloc ?_ _) | (with_reducible refine Kd.C_drewN ?_ _) | (with_reducible refine Kd.C_drew ?_))); (case side2 => exact (Kd.R_reads' HO_516001.out).2.1); rintro e w27 ⟨rfl, hb⟩; refine ⟨_, rfl, ?_⟩; have n0_ := Aside0.mk (Kd.R_below (rL HO_516001.out) hb); have n1_ := Aside0.mk (blk_below BK505.out hb); have n2_ := Aside0.mk (blk_below BK515.out hb); have n3_ := Aside0.mk (below_step (hL HB.out) hb); clear HO_516001; clear BK505; clear BK515; clear HB; have HO_516001 := n0_; have BK505 := n1_; have BK515 := n2_; have HB := n3_; clear n0_ n1_ n2_ n3_; (try clear hb); (try clear hb2); (try clear hk); (try clear hi); have hcz28_0 : w27.cell? ⟨gb505, 0, none⟩ = some (.int .i64 0) := (blk_cell BK505.out 0).trans rfl; have hcz28_1 : w27.cell? ⟨gb505, 1, none⟩ = some (.slice none 0 0) := (blk_cell BK505.out 1).trans rfl; have hfz28_0 := blk_frozen BK505.out 0; have hfz28_1 := blk_frozen BK505.out 1))
        refine bodyPost_ret (results_ct rfl _ _ gb505 24 #[.int .i64 0, .slice none 0 0] (0, 0) _ rfl (by (with_reducible repeat (first | refine blk_drewN ?_ _ | refine blk_drew ?_ | refine blk_alloc ?_ _)); refine blk_put (cs := #[.int .i64 0, .slice none 0 0]) ?_ 1 _ rfl; (with_reducible repeat (first | refine blk_drewN ?_ _ | refine blk_drew ?_ | refine blk_alloc ?_ _)); refine blk_put (cs := #[.int .i64 0, .slice none 0 0]) ?_ 0 _ rfl; exact bL BK505.out) Try.underlying24 rfl (by kernel_rfl)) rfl ?_
        exact ⟨_, by first | rfl | (simp [errW_none, errW_some] <;> rfl) | (simp [*, errW_none, errW_some] <;> rfl), by first | exact Kd.R_nil _ _ _ _ _ | exact Kd.N_nil _ _ _ _ _ | exact Kd.V_nil _ _ _ _ _ | exact Kd.Q_nil _ _ _ _ _ | exact Kd.S_nil _ _ _ _ _, hL HB.out⟩
      ·rw [if_neg c17] at H
       have c17b0 : (x6_14 == 0) = false := beq_eq_false_iff_ne.mpr c17
       have c17b1 : (x6_14 != 0) = true := bne_iff_ne.mpr c17
       simp only [Option.some.injEq, Prod.mk.injEq] at H
       obtain ⟨rfl, rfl, rfl⟩ := H
       have hnb29 := NB505_515.out
       have hnc29 := NB515_505.out
       have hcz30_0 : wc.cell? ⟨gb505, 0, none⟩ = some (.int .i64 0) := (blk_cell BK505.out 0).trans rfl
       have hcz30_1 : wc.cell? ⟨gb505, 1, none⟩ = some (.slice none 0 0) := (blk_cell BK505.out 1).trans rfl
       have hfz30_0 := blk_frozen BK505.out 0
       have hfz30_1 := blk_frozen BK505.out 1
       go_wp2
       refine bodyPost_ret (results_ct rfl _ _ gb505 24 #[.int .i64 0, .slice none 0 0] (0, 0) _ rfl (by (with_reducible repeat (first | refine blk_drewN ?_ _ | refine blk_drew ?_ | refine blk_alloc ?_ _)); refine blk_put (cs := #[.int .i64 0, .slice none 0 0]) ?_ 1 _ rfl; (with_reducible repeat (first | refine blk_drewN ?_ _ | refine blk_drew ?_ | refine blk_alloc ?_ _)); refine blk_put (cs := #[.int .i64 0, .slice none 0 0]) ?_ 0 _ rfl; exact bL BK505.out) Try.underlying24 rfl (by kernel_rfl)) rfl ?_
       exact ⟨_, by first | rfl | (simp [errW_none, errW_some] <;> rfl) | (simp [*, errW_none, errW_some] <;> rfl), by first | exact Kd.R_nil _ _ _ _ _ | exact Kd.N_nil _ _ _ _ _ | exact Kd.V_nil _ _ _ _ _ | exact Kd.Q_nil _ _ _ _ _ | exact Kd.S_nil _ _ _ _ _, hL HB.out⟩
 ·rw [if_neg c2] at H
  exact absurd H (by simp)

end Go.Proofs.Ytmgjccpolkhhhaa.PAll
