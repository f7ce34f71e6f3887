-- Written by a program of this session for this claim (mp.py, over the kit's print); Lean checks it.
import Derived.Test.YtmgjccpolkhhhaaPAllx0
import Derived.Test.YtmgjccpolkhhhaaPAllx6
import Derived.Test.YtmgjccpolkhhhaaPAllx7
import Derived.Test.YtmgjccpolkhhhaaPAllx16
namespace Go.Proofs.Ytmgjccpolkhhhaa.PAll
open Go.RowKit Go.Proofs.YtmgjccpolkhhhaaW.PrintWords Go.Proofs.YtmgjccpolkhhhaaW.PrintLast Go.Proofs.YtmgjccpolkhhhaaW.PrintMore Go.Proofs.Ytmgjccpolkhhhaa.Fv Go.Proofs.Ytmgjccpolkhhhaa.Hl
attribute [local go_sem] max2_int min2_int max_two min_two max_three min_three max_four min_four str_gtr str_leq str_geq cell_set2   -- for this text's walks alone
set_option linter.unusedVariables false
set_option linter.unusedSimpArgs false

/-! ### shelfmarklaw12_act: function 20 -/
def shelfmarklaw12_act.f (k : Nat) (a0_0 : Int) (l0_1 : List (S46)) (a1_0 : Int) (a1_1 : ByteArray) (a1_2 : Int) : Option (Int × (List (S46)) × Int) := if a1_0 = 1 then ((atlas_Split.f k a0_0 l0_1 a1_1).bind fun bt274 => (some (bt274.1, bt274.2.1, bt274.2.2))) else (if a1_0 = 2 then ((atlas_Merge.f k a0_0 l0_1 a1_1).bind fun bt279 => (some (bt279.1, bt279.2.1, bt279.2.2))) else (if a1_0 = 3 then ((atlas_Move.f k a0_0 l0_1 a1_1 a1_2).bind fun bt284 => (some (bt284.1, bt284.2.1, bt284.2.2))) else (some (a0_0, l0_1, 0))))
theorem shelfmarklaw12_act.mono : ∀ a0 a1 a2 a3 a4 k, LeO (shelfmarklaw12_act.f k a0 a1 a2 a3 a4) (shelfmarklaw12_act.f (k + 1) a0 a1 a2 a3 a4) := by
 intro a0 a1 a2 a3 a4 k
 unfold shelfmarklaw12_act.f
 repeat' first
   | (with_reducible exact atlas_Merge.mono _ _ _ _)
   | (with_reducible exact atlas_Move.mono _ _ _ _ _)
   | (with_reducible exact atlas_Split.mono _ _ _ _)
   | (with_reducible exact LeO.refl _)
   | (with_reducible exact LeO.none _)
   | (with_reducible refine LeO.ite ?_ ?_)
   | (with_reducible refine LeO.bind ?_ (fun _ => ?_))
   | exact atlas_Merge.mono _ _ _ _
   | exact atlas_Move.mono _ _ _ _ _
   | exact atlas_Split.mono _ _ _ _
   | exact LeO.none _
   | refine LeO.ite ?_ ?_
   | refine LeO.bind ?_ (fun _ => ?_)
set_option maxHeartbeats 8000000 in
set_option maxRecDepth 100000 in
theorem shelfmarklaw12_act.calls (k : Nat) (a0_0 : Int) (P0_1_ : Nat → Prop) (A0_1 : Option Addr) (c0_1 : Nat) (l0_1 : List (S46)) (a1_0 : Int) (a1_1 : ByteArray) (a1_2 : Int) (r1 : Int) (r2 : List (S46)) (r3 : Int) (w : World) (hs0_1 : Kd.V k46 46 w w.heap.size (fun k_ => P0_1_ k_) (.slice A0_1 l0_1.length c0_1) l0_1) (h : shelfmarklaw12_act.f k a0_0 l0_1 a1_0 a1_1 a1_2 = some (r1, r2, r3)) :
  Calls Try.prog 20 #[.agg #[.int .i64 a0_0, .slice A0_1 l0_1.length c0_1], .agg #[.int .i64 a1_0, .string a1_1, .int .i64 a1_2]] w fun e w' => ∃ v1_ : Value, e = .returned (.tuple #[.agg #[.int .i64 r1, v1_], .int .i64 r3]) ∧ Kd.V k46 46 w' w.heap.size (fun k_ => (P0_1_ k_ ∨ w.heap.size ≤ k_)) v1_ r2 ∧ Below w.heap.size w w' := by
 have hu24 := Try.underlying24
 have hu40 := Try.underlying40
 have HO0_1 := Aside0.mk (show Kd.V k46 46 w w.heap.size (fun k_ => (P0_1_ k_ ∨ w.heap.size ≤ k_)) (.slice A0_1 l0_1.length c0_1) l0_1 from Kd.V_mono hs0_1 (fun k_ hk => .inl hk))
 have HB := Aside0.mk (Below.refl w.heap.size w)
 have H : (if a1_0 = 1 then ((atlas_Split.f k a0_0 l0_1 a1_1).bind fun bt274 => (some (bt274.1, bt274.2.1, bt274.2.2))) else (if a1_0 = 2 then ((atlas_Merge.f k a0_0 l0_1 a1_1).bind fun bt279 => (some (bt279.1, bt279.2.1, bt279.2.2))) else (if a1_0 = 3 then ((atlas_Move.f k a0_0 l0_1 a1_1 a1_2).bind fun bt284 => (some (bt284.1, bt284.2.1, bt284.2.2))) else (some (a0_0, l0_1, 0))))) = some (r1, r2, r3) := h
 clear h
 by_cases c3 : a1_0 = 1
 ·rw [if_pos c3] at H
  have c3b0 : (a1_0 == 1) = true := beq_iff_eq.mpr c3
  have c3b1 : (a1_0 != 1) = false := bne_eq_false_iff_eq.mpr c3
  clear c3
  replace H := Option.bind_eq_some_iff.mp H
  obtain ⟨⟨t274, t275, t278⟩, A40, H⟩ := H
  replace H : (some (t274, t275, t278)) = some (r1, r2, r3) := H
  have A4 := Aside0.mk A40
  clear A40
  simp only [Option.some.injEq, Prod.mk.injEq] at H
  obtain ⟨rfl, rfl, rfl⟩ := H
  go_enter Try.func20, Try.ntmps20
  go_wp2_with (first | ((with_reducible refine gate_dst (N := 2) rfl ?_); refine box_event ?hg (N := 2) ?hd (cs := #[.int .i64 a0_0, .slice A0_1 l0_1.length c0_1]) (t := 24) ?hr ?_; (case hd => rfl); (case hg => rfl); (case hr => first | (go_simp; done) | (go_simp; rfl)); intro gb271 hg w5 hbox hb; have n0_ := Aside0.mk (Kd.V_below (Kd.V_elderB (vL HO0_1.out) gb271 (Nat.le_of_eq hg.symm)) hb); have n1_ := Aside0.mk (below_step (hL HB.out) hb); have n2_ := Aside0.mk (hbox); have n3_ := Above.mk ((by rw [hg]; exact (below_size (hL HB.out)) : w.heap.size ≤ gb271)); have n4_ := Above.mk ((by rw [hg]; exact (below_size (hL HB.out)) : w.heap.size ≤ gb271)); clear HO0_1; clear HB; have HO0_1 := n0_; have HB := n1_; have BK271 := n2_; have GW271 := n3_; have GE271 := n4_; clear n0_ n1_ n2_ n3_ n4_; clear hb hbox hg) | ((with_reducible refine gate_dst (N := 3) rfl ?_); refine box_event ?hg (N := 3) ?hd (cs := #[.int .i64 a1_0, .string a1_1, .int .i64 a1_2]) (t := 40) ?hr ?_; (case hd => rfl); (case hg => rfl); (case hr => first | (go_simp; done) | (go_simp; rfl)); intro gb272 hg w6 hbox hb; have n0_ := Aside0.mk (Kd.V_below (Kd.V_elderB (vL HO0_1.out) gb272 (Nat.le_of_eq hg.symm)) hb); have n1_ := Aside0.mk (blk_below BK271.out hb); have n2_ := Aside0.mk (below_step (hL HB.out) hb); have n3_ := Aside0.mk (hbox); have n4_ := Above.mk ((by rw [hg]; exact (below_size (hL HB.out)) : w.heap.size ≤ gb272)); have n5_ := Above.mk ((by rw [hg]; exact (below_size (hL HB.out)) : w.heap.size ≤ gb272)); have n6_ := Aside0.mk ((by rw [hg]; exact Nat.ne_of_lt (blk_lt (g := gb271) (o := .cells #[.int .i64 a0_0, .slice A0_1 l0_1.length c0_1] 24 (0, 0)) (bL BK271.out)) : gb271 ≠ gb272)); have n7_ := Aside0.mk ((by rw [hg]; exact Nat.ne_of_gt (blk_lt (g := gb271) (o := .cells #[.int .i64 a0_0, .slice A0_1 l0_1.length c0_1] 24 (0, 0)) (bL BK271.out)) : gb272 ≠ gb271)); clear HO0_1; clear BK271; clear HB; have HO0_1 := n0_; have BK271 := n1_; have HB := n2_; have BK272 := n3_; have GW272 := n4_; have GE272 := n5_; have NB271_272 := n6_; have NB272_271 := n7_; clear n0_ n1_ n2_ n3_ n4_ n5_ n6_ n7_; clear hb hbox hg) | ((with_reducible refine gate_dst (N := 4) rfl ?_); refine box_event ?hg (N := 4) ?hd (cs := #[.int .i64 0, .slice none 0 0]) (t := 24) ?hr ?_; (case hd => rfl); (case hg => rfl); (case hr => first | (go_simp; done) | (go_simp; rfl)); intro gb273 hg w7 hbox hb; have n0_ := Aside0.mk (Kd.V_below (Kd.V_elderB (vL HO0_1.out) gb273 (Nat.le_of_eq hg.symm)) hb); have n1_ := Aside0.mk (blk_below BK271.out hb); have n2_ := Aside0.mk (blk_below BK272.out hb); have n3_ := Aside0.mk (below_step (hL HB.out) hb); have n4_ := Aside0.mk (hbox); have n5_ := Above.mk ((by rw [hg]; exact (below_size (hL HB.out)) : w.heap.size ≤ gb273)); have n6_ := Above.mk ((by rw [hg]; exact (below_size (hL HB.out)) : w.heap.size ≤ gb273)); have n7_ := Aside0.mk ((by rw [hg]; exact Nat.ne_of_lt (blk_lt (g := gb271) (o := .cells #[.int .i64 a0_0, .slice A0_1 l0_1.length c0_1] 24 (0, 0)) (bL BK271.out)) : gb271 ≠ gb273)); have n8_ := Aside0.mk ((by rw [hg]; exact Nat.ne_of_gt (blk_lt (g := gb271) (o := .cells #[.int .i64 a0_0, .slice A0_1 l0_1.length c0_1] 24 (0, 0)) (bL BK271.out)) : gb273 ≠ gb271)); have n9_ := Aside0.mk ((by rw [hg]; exact Nat.ne_of_lt (blk_lt (g := gb272) (o := .cells #[.int .i64 a1_0, .string a1_1, .int .i64 a1_2] 40 (0, 0)) (bL BK272.out)) : gb272 ≠ gb273)); have n10_ := Aside0.mk ((by rw [hg]; exact Nat.ne_of_gt (blk_lt (g := gb272) (o := .cells #[.int .i64 a1_0, .string a1_1, .int .i64 a1_2] 40 (0, 0)) (bL BK272.out)) : gb273 ≠ gb272)); clear HO0_1; clear BK271; clear BK272; clear HB; have HO0_1 := n0_; have BK271 := n1_; have BK272 := n2_; have HB := n3_; have BK273 := n4_; have GW273 := n5_; have GE273 := n6_; have NB271_273 := n7_; have NB273_271 := n8_; have NB272_273 := n9_; have NB273_272 := n10_; clear n0_ n1_ n2_ n3_ n4_ n5_ n6_ n7_ n8_ n9_ n10_; clear hb hbox hg; have hnb8 := NB272_271.out; have hnc8 := NB271_272.out; have hnb9 := NB272_273.out; have hnc9 := NB273_272.out; have hcz10_0 : w7.cell? ⟨gb272, 0, none⟩ = some (.int .i64 a1_0) := (blk_cell BK272.out 0).trans rfl; have hcz10_1 : w7.cell? ⟨gb272, 1, none⟩ = some (.string a1_1) := (blk_cell BK272.out 1).trans rfl; have hcz10_2 : w7.cell? ⟨gb272, 2, none⟩ = some (.int .i64 a1_2) := (blk_cell BK272.out 2).trans rfl; have hfz10_0 := blk_frozen BK272.out 0; have hfz10_1 := blk_frozen BK272.out 1; have hfz10_2 := blk_frozen BK272.out 2; have hnb11 := NB271_273.out; have hnc11 := NB273_271.out; have hcz12_0 : w7.cell? ⟨gb271, 0, none⟩ = some (.int .i64 a0_0) := (blk_cell BK271.out 0).trans rfl; have hcz12_1 : w7.cell? ⟨gb271, 1, none⟩ = some (.slice A0_1 l0_1.length c0_1) := (blk_cell BK271.out 1).trans rfl; have hfz12_0 := blk_frozen BK271.out 0; have hfz12_1 := blk_frozen BK271.out 1) | ((with_reducible refine gate_callee (f := 22) rfl ?_); refine goesL_ (some 13) rfl rfl Try.func22 (by kernel_rfl) rfl #[.agg #[.int .i64 a0_0, .slice A0_1 l0_1.length c0_1], .string a1_1] rfl (by (try simp only [List.map_toArray, List.map_cons, List.map_nil]); first | done | rfl | (simp only [List.length_drop, List.length_take]; rfl)) ?_; (with_reducible refine (atlas_Split.calls k a0_0 _ _ l0_1 a1_1 t274 t275 t278 _ ?side1 ?side2 A4.out).mono ?_); (case side1 => repeat (first | exact (Kd.V_reads' HO0_1.out).2.2 | (with_reducible refine Kd.C_alloc ?_ _) | (with_reducible refine Kd.C_drewN ?_ _) | (with_reducible refine Kd.C_drew ?_))); (case side2 => exact (Kd.V_reads' HO0_1.out).2.1); rintro e w13 ⟨v276, rfl, ho0, hb⟩; refine ⟨_, rfl, ?_⟩; have n0_ := Aside0.mk (Kd.V_elder' (vL HO0_1.out) (Kd.R_base ho0) hb); have n1_ := Aside0.mk (Kd.R_lower (Kd.R_newM (M := fun k_ => (w.heap.size ≤ k_)) ho0 (below_size (hL HB.out)) (fun k_ h_ => h_)) (below_size (hL HB.out))); have n2_ := Aside0.mk (blk_below BK271.out hb); have n3_ := Aside0.mk (blk_below BK272.out hb); have n4_ := Aside0.mk (blk_below BK273.out hb); have n5_ := Aside0.mk (below_step (hL HB.out) hb); clear HO0_1; clear BK271; clear BK272; clear BK273; clear HB; have HO0_1 := n0_; have HO277 := n1_; have BK271 := n2_; have BK272 := n3_; have BK273 := n4_; have HB := n5_; clear n0_ n1_ n2_ n3_ n4_ n5_; (try clear hb); (try clear hb2); (try clear hk); (try clear hi); (try clear ho0); have hcz14_0 : w13.cell? ⟨gb273, 0, none⟩ = some (.int .i64 0) := (blk_cell BK273.out 0).trans rfl; have hcz14_1 : w13.cell? ⟨gb273, 1, none⟩ = some (.slice none 0 0) := (blk_cell BK273.out 1).trans rfl; have hfz14_0 := blk_frozen BK273.out 0; have hfz14_1 := blk_frozen BK273.out 1; obtain ⟨Ao15, co15, eo15⟩ := Kd.R_slice HO277.out; subst eo15))
  refine bodyPost_ret (results_ct rfl _ _ gb273 24 #[.int .i64 t274, .slice Ao15 t275.length co15] (0, 0) _ rfl (by (with_reducible repeat (first | refine blk_drewN ?_ _ | refine blk_drew ?_ | refine blk_alloc ?_ _)); refine blk_put (cs := #[.int .i64 t274, .slice none 0 0]) ?_ 1 _ rfl; (with_reducible repeat (first | refine blk_drewN ?_ _ | refine blk_drew ?_ | refine blk_alloc ?_ _)); refine blk_put (cs := #[.int .i64 0, .slice none 0 0]) ?_ 0 _ rfl; exact bL BK273.out) Try.underlying24 rfl (by kernel_rfl)) rfl ?_
  exact ⟨_, by first | rfl | (simp [errW_none, errW_some] <;> rfl) | (simp [*, errW_none, errW_some] <;> rfl), Kd.V_mono (Kd.R_V (by (with_reducible repeat (first | apply Kd.R_alloc | apply Kd.R_drewN | apply Kd.R_drew)); exact Kd.R_mono (Kd.R_far (p := ⟨gb273, 1, none⟩) (Kd.R_far (p := ⟨gb273, 0, none⟩) (Kd.R_types HO277.out BK273.out (by decide)) (fun _ hk => hk.2) (.int .i64 t274)) (fun _ hk => hk.2) (.slice Ao15 t275.length co15)) (fun _ hk => hk.1.1))) (fun k_ hk => by first | exact ⟨(.inr (hk.1)), hk.2⟩ | exact (.inr (hk))), hL HB.out⟩
 rw [if_neg c3] at H
 have c3b0 : (a1_0 == 1) = false := beq_eq_false_iff_ne.mpr c3
 have c3b1 : (a1_0 != 1) = true := bne_iff_ne.mpr c3
 by_cases c16 : a1_0 = 2
 ·rw [if_pos c16] at H
  have c16b0 : (a1_0 == 2) = true := beq_iff_eq.mpr c16
  have c16b1 : (a1_0 != 2) = false := bne_eq_false_iff_eq.mpr c16
  clear c16
  replace H := Option.bind_eq_some_iff.mp H
  obtain ⟨⟨t279, t280, t283⟩, A170, H⟩ := H
  replace H : (some (t279, t280, t283)) = some (r1, r2, r3) := H
  have A17 := Aside0.mk A170
  clear A170
  simp only [Option.some.injEq, Prod.mk.injEq] at H
  obtain ⟨rfl, rfl, rfl⟩ := H
  go_enter Try.func20, Try.ntmps20
  go_wp2_with (first | ((with_reducible refine gate_dst (N := 2) rfl ?_); refine box_event ?hg (N := 2) ?hd (cs := #[.int .i64 a0_0, .slice A0_1 l0_1.length c0_1]) (t := 24) ?hr ?_; (case hd => rfl); (case hg => rfl); (case hr => first | (go_simp; done) | (go_simp; rfl)); intro gb271 hg w18 hbox hb; have n0_ := Aside0.mk (Kd.V_below (Kd.V_elderB (vL HO0_1.out) gb271 (Nat.le_of_eq hg.symm)) hb); have n1_ := Aside0.mk (below_step (hL HB.out) hb); have n2_ := Aside0.mk (hbox); have n3_ := Above.mk ((by rw [hg]; exact (below_size (hL HB.out)) : w.heap.size ≤ gb271)); have n4_ := Above.mk ((by rw [hg]; exact (below_size (hL HB.out)) : w.heap.size ≤ gb271)); clear HO0_1; clear HB; have HO0_1 := n0_; have HB := n1_; have BK271 := n2_; have GW271 := n3_; have GE271 := n4_; clear n0_ n1_ n2_ n3_ n4_; clear hb hbox hg) | ((with_reducible refine gate_dst (N := 3) rfl ?_); refine box_event ?hg (N := 3) ?hd (cs := #[.int .i64 a1_0, .string a1_1, .int .i64 a1_2]) (t := 40) ?hr ?_; (case hd => rfl); (case hg => rfl); (case hr => first | (go_simp; done) | (go_simp; rfl)); intro gb272 hg w19 hbox hb; have n0_ := Aside0.mk (Kd.V_below (Kd.V_elderB (vL HO0_1.out) gb272 (Nat.le_of_eq hg.symm)) hb); have n1_ := Aside0.mk (blk_below BK271.out hb); have n2_ := Aside0.mk (below_step (hL HB.out) hb); have n3_ := Aside0.mk (hbox); have n4_ := Above.mk ((by rw [hg]; exact (below_size (hL HB.out)) : w.heap.size ≤ gb272)); have n5_ := Above.mk ((by rw [hg]; exact (below_size (hL HB.out)) : w.heap.size ≤ gb272)); have n6_ := Aside0.mk ((by rw [hg]; exact Nat.ne_of_lt (blk_lt (g := gb271) (o := .cells #[.int .i64 a0_0, .slice A0_1 l0_1.length c0_1] 24 (0, 0)) (bL BK271.out)) : gb271 ≠ gb272)); have n7_ := Aside0.mk ((by rw [hg]; exact Nat.ne_of_gt (blk_lt (g := gb271) (o := .cells #[.int .i64 a0_0, .slice A0_1 l0_1.length c0_1] 24 (0, 0)) (bL BK271.out)) : gb272 ≠ gb271)); clear HO0_1; clear BK271; clear HB; have HO0_1 := n0_; have BK271 := n1_; have HB := n2_; have BK272 := n3_; have GW272 := n4_; have GE272 := n5_; have NB271_272 := n6_; have NB272_271 := n7_; clear n0_ n1_ n2_ n3_ n4_ n5_ n6_ n7_; clear hb hbox hg) | ((with_reducible refine gate_dst (N := 4) rfl ?_); refine box_event ?hg (N := 4) ?hd (cs := #[.int .i64 0, .slice none 0 0]) (t := 24) ?hr ?_; (case hd => rfl); (case hg => rfl); (case hr => first | (go_simp; done) | (go_simp; rfl)); intro gb273 hg w20 hbox hb; have n0_ := Aside0.mk (Kd.V_below (Kd.V_elderB (vL HO0_1.out) gb273 (Nat.le_of_eq hg.symm)) hb); have n1_ := Aside0.mk (blk_below BK271.out hb); have n2_ := Aside0.mk (blk_below BK272.out hb); have n3_ := Aside0.mk (below_step (hL HB.out) hb); have n4_ := Aside0.mk (hbox); have n5_ := Above.mk ((by rw [hg]; exact (below_size (hL HB.out)) : w.heap.size ≤ gb273)); have n6_ := Above.mk ((by rw [hg]; exact (below_size (hL HB.out)) : w.heap.size ≤ gb273)); have n7_ := Aside0.mk ((by rw [hg]; exact Nat.ne_of_lt (blk_lt (g := gb271) (o := .cells #[.int .i64 a0_0, .slice A0_1 l0_1.length c0_1] 24 (0, 0)) (bL BK271.out)) : gb271 ≠ gb273)); have n8_ := Aside0.mk ((by rw [hg]; exact Nat.ne_of_gt (blk_lt (g := gb271) (o := .cells #[.int .i64 a0_0, .slice A0_1 l0_1.length c0_1] 24 (0, 0)) (bL BK271.out)) : gb273 ≠ gb271)); have n9_ := Aside0.mk ((by rw [hg]; exact Nat.ne_of_lt (blk_lt (g := gb272) (o := .cells #[.int .i64 a1_0, .string a1_1, .int .i64 a1_2] 40 (0, 0)) (bL BK272.out)) : gb272 ≠ gb273)); have n10_ := Aside0.mk ((by rw [hg]; exact Nat.ne_of_gt (blk_lt (g := gb272) (o := .cells #[.int .i64 a1_0, .string a1_1, .int .i64 a1_2] 40 (0, 0)) (bL BK272.out)) : gb273 ≠ gb272)); clear HO0_1; clear BK271; clear BK272; clear HB; have HO0_1 := n0_; have BK271 := n1_; have BK272 := n2_; have HB := n3_; have BK273 := n4_; have GW273 := n5_; have GE273 := n6_; have NB271_273 := n7_; have NB273_271 := n8_; have NB272_273 := n9_; have NB273_272 := n10_; clear n0_ n1_ n2_ n3_ n4_ n5_ n6_ n7_ n8_ n9_ n10_; clear hb hbox hg; have hnb21 := NB272_271.out; have hnc21 := NB271_272.out; have hnb22 := NB272_273.out; have hnc22 := NB273_272.out; have hcz23_0 : w20.cell? ⟨gb272, 0, none⟩ = some (.int .i64 a1_0) := (blk_cell BK272.out 0).trans rfl; have hcz23_1 : w20.cell? ⟨gb272, 1, none⟩ = some (.string a1_1) := (blk_cell BK272.out 1).trans rfl; have hcz23_2 : w20.cell? ⟨gb272, 2, none⟩ = some (.int .i64 a1_2) := (blk_cell BK272.out 2).trans rfl; have hfz23_0 := blk_frozen BK272.out 0; have hfz23_1 := blk_frozen BK272.out 1; have hfz23_2 := blk_frozen BK272.out 2; have hnb24 := NB271_273.out; have hnc24 := NB273_271.out; have hcz25_0 : w20.cell? ⟨gb271, 0, none⟩ = some (.int .i64 a0_0) := (blk_cell BK271.out 0).trans rfl; have hcz25_1 : w20.cell? ⟨gb271, 1, none⟩ = some (.slice A0_1 l0_1.length c0_1) := (blk_cell BK271.out 1).trans rfl; have hfz25_0 := blk_frozen BK271.out 0; have hfz25_1 := blk_frozen BK271.out 1) | ((with_reducible refine gate_callee (f := 23) rfl ?_); refine goesL_ (some 21) rfl rfl Try.func23 (by kernel_rfl) rfl #[.agg #[.int .i64 a0_0, .slice A0_1 l0_1.length c0_1], .string a1_1] rfl (by (try simp only [List.map_toArray, List.map_cons, List.map_nil]); first | done | rfl | (simp only [List.length_drop, List.length_take]; rfl)) ?_; (with_reducible refine (atlas_Merge.calls k a0_0 _ _ l0_1 a1_1 t279 t280 t283 _ ?side1 ?side2 A17.out).mono ?_); (case side1 => repeat (first | exact (Kd.V_reads' HO0_1.out).2.2 | (with_reducible refine Kd.C_alloc ?_ _) | (with_reducible refine Kd.C_drewN ?_ _) | (with_reducible refine Kd.C_drew ?_))); (case side2 => exact (Kd.V_reads' HO0_1.out).2.1); rintro e w26 ⟨v281, rfl, ho0, hb⟩; refine ⟨_, rfl, ?_⟩; have n0_ := Aside0.mk (Kd.V_elder' (vL HO0_1.out) (Kd.R_base ho0) hb); have n1_ := Aside0.mk (Kd.R_lower (Kd.R_newM (M := fun k_ => (w.heap.size ≤ k_)) ho0 (below_size (hL HB.out)) (fun k_ h_ => h_)) (below_size (hL HB.out))); have n2_ := Aside0.mk (blk_below BK271.out hb); have n3_ := Aside0.mk (blk_below BK272.out hb); have n4_ := Aside0.mk (blk_below BK273.out hb); have n5_ := Aside0.mk (below_step (hL HB.out) hb); clear HO0_1; clear BK271; clear BK272; clear BK273; clear HB; have HO0_1 := n0_; have HO282 := n1_; have BK271 := n2_; have BK272 := n3_; have BK273 := n4_; have HB := n5_; clear n0_ n1_ n2_ n3_ n4_ n5_; (try clear hb); (try clear hb2); (try clear hk); (try clear hi); (try clear ho0); have hcz27_0 : w26.cell? ⟨gb273, 0, none⟩ = some (.int .i64 0) := (blk_cell BK273.out 0).trans rfl; have hcz27_1 : w26.cell? ⟨gb273, 1, none⟩ = some (.slice none 0 0) := (blk_cell BK273.out 1).trans rfl; have hfz27_0 := blk_frozen BK273.out 0; have hfz27_1 := blk_frozen BK273.out 1; obtain ⟨Ao28, co28, eo28⟩ := Kd.R_slice HO282.out; subst eo28))
  refine bodyPost_ret (results_ct rfl _ _ gb273 24 #[.int .i64 t279, .slice Ao28 t280.length co28] (0, 0) _ rfl (by (with_reducible repeat (first | refine blk_drewN ?_ _ | refine blk_drew ?_ | refine blk_alloc ?_ _)); refine blk_put (cs := #[.int .i64 t279, .slice none 0 0]) ?_ 1 _ rfl; (with_reducible repeat (first | refine blk_drewN ?_ _ | refine blk_drew ?_ | refine blk_alloc ?_ _)); refine blk_put (cs := #[.int .i64 0, .slice none 0 0]) ?_ 0 _ rfl; exact bL BK273.out) Try.underlying24 rfl (by kernel_rfl)) rfl ?_
  exact ⟨_, by first | rfl | (simp [errW_none, errW_some] <;> rfl) | (simp [*, errW_none, errW_some] <;> rfl), Kd.V_mono (Kd.R_V (by (with_reducible repeat (first | apply Kd.R_alloc | apply Kd.R_drewN | apply Kd.R_drew)); exact Kd.R_mono (Kd.R_far (p := ⟨gb273, 1, none⟩) (Kd.R_far (p := ⟨gb273, 0, none⟩) (Kd.R_types HO282.out BK273.out (by decide)) (fun _ hk => hk.2) (.int .i64 t279)) (fun _ hk => hk.2) (.slice Ao28 t280.length co28)) (fun _ hk => hk.1.1))) (fun k_ hk => by first | exact ⟨(.inr (hk.1)), hk.2⟩ | exact (.inr (hk))), hL HB.out⟩
 rw [if_neg c16] at H
 have c16b0 : (a1_0 == 2) = false := beq_eq_false_iff_ne.mpr c16
 have c16b1 : (a1_0 != 2) = true := bne_iff_ne.mpr c16
 by_cases c29 : a1_0 = 3
 rotate_left
 ·rw [if_neg c29] at H
  have c29b0 : (a1_0 == 3) = false := beq_eq_false_iff_ne.mpr c29
  have c29b1 : (a1_0 != 3) = true := bne_iff_ne.mpr c29
  simp only [Option.some.injEq, Prod.mk.injEq] at H
  obtain ⟨rfl, rfl, rfl⟩ := H
  go_enter Try.func20, Try.ntmps20
  go_wp2_with (first | ((with_reducible refine gate_dst (N := 2) rfl ?_); refine box_event ?hg (N := 2) ?hd (cs := #[.int .i64 a0_0, .slice A0_1 l0_1.length c0_1]) (t := 24) ?hr ?_; (case hd => rfl); (case hg => rfl); (case hr => first | (go_simp; done) | (go_simp; rfl)); intro gb271 hg w42 hbox hb; have n0_ := Aside0.mk (Kd.V_below (Kd.V_elderB (vL HO0_1.out) gb271 (Nat.le_of_eq hg.symm)) hb); have n1_ := Aside0.mk (below_step (hL HB.out) hb); have n2_ := Aside0.mk (hbox); have n3_ := Above.mk ((by rw [hg]; exact (below_size (hL HB.out)) : w.heap.size ≤ gb271)); have n4_ := Above.mk ((by rw [hg]; exact (below_size (hL HB.out)) : w.heap.size ≤ gb271)); clear HO0_1; clear HB; have HO0_1 := n0_; have HB := n1_; have BK271 := n2_; have GW271 := n3_; have GE271 := n4_; clear n0_ n1_ n2_ n3_ n4_; clear hb hbox hg) | ((with_reducible refine gate_dst (N := 3) rfl ?_); refine box_event ?hg (N := 3) ?hd (cs := #[.int .i64 a1_0, .string a1_1, .int .i64 a1_2]) (t := 40) ?hr ?_; (case hd => rfl); (case hg => rfl); (case hr => first | (go_simp; done) | (go_simp; rfl)); intro gb272 hg w43 hbox hb; have n0_ := Aside0.mk (Kd.V_below (Kd.V_elderB (vL HO0_1.out) gb272 (Nat.le_of_eq hg.symm)) hb); have n1_ := Aside0.mk (blk_below BK271.out hb); have n2_ := Aside0.mk (below_step (hL HB.out) hb); have n3_ := Aside0.mk (hbox); have n4_ := Above.mk ((by rw [hg]; exact (below_size (hL HB.out)) : w.heap.size ≤ gb272)); have n5_ := Above.mk ((by rw [hg]; exact (below_size (hL HB.out)) : w.heap.size ≤ gb272)); have n6_ := Aside0.mk ((by rw [hg]; exact Nat.ne_of_lt (blk_lt (g := gb271) (o := .cells #[.int .i64 a0_0, .slice A0_1 l0_1.length c0_1] 24 (0, 0)) (bL BK271.out)) : gb271 ≠ gb272)); have n7_ := Aside0.mk ((by rw [hg]; exact Nat.ne_of_gt (blk_lt (g := gb271) (o := .cells #[.int .i64 a0_0, .slice A0_1 l0_1.length c0_1] 24 (0, 0)) (bL BK271.out)) : gb272 ≠ gb271)); clear HO0_1; clear BK271; clear HB; have HO0_1 := n0_; have BK271 := n1_; have HB := n2_; have BK272 := n3_; have GW272 := n4_; have GE272 := n5_; have NB271_272 := n6_; have NB272_271 := n7_; clear n0_ n1_ n2_ n3_ n4_ n5_ n6_ n7_; clear hb hbox hg) | ((with_reducible refine gate_dst (N := 4) rfl ?_); refine box_event ?hg (N := 4) ?hd (cs := #[.int .i64 0, .slice none 0 0]) (t := 24) ?hr ?_; (case hd => rfl); (case hg => rfl); (case hr => first | (go_simp; done) | (go_simp; rfl)); intro gb273 hg w44 hbox hb; have n0_ := Aside0.mk (Kd.V_below (Kd.V_elderB (vL HO0_1.out) gb273 (Nat.le_of_eq hg.symm)) hb); have n1_ := Aside0.mk (blk_below BK271.out hb); have n2_ := Aside0.mk (blk_below BK272.out hb); have n3_ := Aside0.mk (below_step (hL HB.out) hb); have n4_ := Aside0.mk (hbox); have n5_ := Above.mk ((by rw [hg]; exact (below_size (hL HB.out)) : w.heap.size ≤ gb273)); have n6_ := Above.mk ((by rw [hg]; exact (below_size (hL HB.out)) : w.heap.size ≤ gb273)); have n7_ := Aside0.mk ((by rw [hg]; exact Nat.ne_of_lt (blk_lt (g := gb271) (o := .cells #[.int .i64 a0_0, .slice A0_1 l0_1.length c0_1] 24 (0, 0)) (bL BK271.out)) : gb271 ≠ gb273)); have n8_ := Aside0.mk ((by rw [hg]; exact Nat.ne_of_gt (blk_lt (g := gb271) (o := .cells #[.int .i64 a0_0, .slice A0_1 l0_1.length c0_1] 24 (0, 0)) (bL BK271.out)) : gb273 ≠ gb271)); have n9_ := Aside0.mk ((by rw [hg]; exact Nat.ne_of_lt (blk_lt (g := gb272) (o := .cells #[.int .i64 a1_0, .string a1_1, .int .i64 a1_2] 40 (0, 0)) (bL BK272.out)) : gb272 ≠ gb273)); have n10_ := Aside0.mk ((by rw [hg]; exact Nat.ne_of_gt (blk_lt (g := gb272) (o := .cells #[.int .i64 a1_0, .string a1_1, .int .i64 a1_2] 40 (0, 0)) (bL BK272.out)) : gb273 ≠ gb272)); clear HO0_1; clear BK271; clear BK272; clear HB; have HO0_1 := n0_; have BK271 := n1_; have BK272 := n2_; have HB := n3_; have BK273 := n4_; have GW273 := n5_; have GE273 := n6_; have NB271_273 := n7_; have NB273_271 := n8_; have NB272_273 := n9_; have NB273_272 := n10_; clear n0_ n1_ n2_ n3_ n4_ n5_ n6_ n7_ n8_ n9_ n10_; clear hb hbox hg; have hnb45 := NB272_271.out; have hnc45 := NB271_272.out; have hnb46 := NB272_273.out; have hnc46 := NB273_272.out; have hcz47_0 : w44.cell? ⟨gb272, 0, none⟩ = some (.int .i64 a1_0) := (blk_cell BK272.out 0).trans rfl; have hcz47_1 : w44.cell? ⟨gb272, 1, none⟩ = some (.string a1_1) := (blk_cell BK272.out 1).trans rfl; have hcz47_2 : w44.cell? ⟨gb272, 2, none⟩ = some (.int .i64 a1_2) := (blk_cell BK272.out 2).trans rfl; have hfz47_0 := blk_frozen BK272.out 0; have hfz47_1 := blk_frozen BK272.out 1; have hfz47_2 := blk_frozen BK272.out 2; have hnb48 := NB271_273.out; have hnc48 := NB273_271.out; have hcz49_0 : w44.cell? ⟨gb271, 0, none⟩ = some (.int .i64 a0_0) := (blk_cell BK271.out 0).trans rfl; have hcz49_1 : w44.cell? ⟨gb271, 1, none⟩ = some (.slice A0_1 l0_1.length c0_1) := (blk_cell BK271.out 1).trans rfl; have hfz49_0 := blk_frozen BK271.out 0; have hfz49_1 := blk_frozen BK271.out 1; have hcz50_0 : w44.cell? ⟨gb273, 0, none⟩ = some (.int .i64 0) := (blk_cell BK273.out 0).trans rfl; have hcz50_1 : w44.cell? ⟨gb273, 1, none⟩ = some (.slice none 0 0) := (blk_cell BK273.out 1).trans rfl; have hfz50_0 := blk_frozen BK273.out 0; have hfz50_1 := blk_frozen BK273.out 1))
  refine bodyPost_ret (results_ct rfl _ _ gb273 24 #[.int .i64 a0_0, .slice A0_1 l0_1.length c0_1] (0, 0) _ rfl (by (with_reducible repeat (first | refine blk_drewN ?_ _ | refine blk_drew ?_ | refine blk_alloc ?_ _)); refine blk_put (cs := #[.int .i64 a0_0, .slice none 0 0]) ?_ 1 _ rfl; (with_reducible repeat (first | refine blk_drewN ?_ _ | refine blk_drew ?_ | refine blk_alloc ?_ _)); refine blk_put (cs := #[.int .i64 0, .slice none 0 0]) ?_ 0 _ rfl; exact bL BK273.out) Try.underlying24 rfl (by kernel_rfl)) rfl ?_
  exact ⟨_, by first | rfl | (simp [errW_none, errW_some] <;> rfl) | (simp [*, errW_none, errW_some] <;> rfl), by (with_reducible repeat (first | apply Kd.V_alloc | apply Kd.V_drewN | apply Kd.V_drew)); exact Kd.V_mono (Kd.V_far (p := ⟨gb273, 1, none⟩) (Kd.V_far (p := ⟨gb273, 0, none⟩) (Kd.V_mono HO0_1.out (fun k_ hk => (⟨hk, hk.2⟩ : _ ∧ k_ ≠ gb273))) (fun _ hk => hk.2) (.int .i64 a0_0)) (fun _ hk => hk.2) (.slice A0_1 l0_1.length c0_1)) (fun _ hk => hk.1.1.1.1), hL HB.out⟩
 rw [if_pos c29] at H
 have c29b0 : (a1_0 == 3) = true := beq_iff_eq.mpr c29
 have c29b1 : (a1_0 != 3) = false := bne_eq_false_iff_eq.mpr c29
 clear c29
 replace H := Option.bind_eq_some_iff.mp H
 obtain ⟨⟨t284, t285, t288⟩, A300, H⟩ := H
 replace H : (some (t284, t285, t288)) = some (r1, r2, r3) := H
 have A30 := Aside0.mk A300
 clear A300
 simp only [Option.some.injEq, Prod.mk.injEq] at H
 obtain ⟨rfl, rfl, rfl⟩ := H
 go_enter Try.func20, Try.ntmps20
 go_wp2_with (first | ((with_reducible refine gate_dst (N := 2) rfl ?_); refine box_event ?hg (N := 2) ?hd (cs := #[.int .i64 a0_0, .slice A0_1 l0_1.length c0_1]) (t := 24) ?hr ?_; (case hd => rfl); (case hg => rfl); (case hr => first | (go_simp; done) | (go_simp; rfl)); intro gb271 hg w31 hbox hb; have n0_ := Aside0.mk (Kd.V_below (Kd.V_elderB (vL HO0_1.out) gb271 (Nat.le_of_eq hg.symm)) hb); have n1_ := Aside0.mk (below_step (hL HB.out) hb); have n2_ := Aside0.mk (hbox); have n3_ := Above.mk ((by rw [hg]; exact (below_size (hL HB.out)) : w.heap.size ≤ gb271)); have n4_ := Above.mk ((by rw [hg]; exact (below_size (hL HB.out)) : w.heap.size ≤ gb271)); clear HO0_1; clear HB; have HO0_1 := n0_; have HB := n1_; have BK271 := n2_; have GW271 := n3_; have GE271 := n4_; clear n0_ n1_ n2_ n3_ n4_; clear hb hbox hg) | ((with_reducible refine gate_dst (N := 3) rfl ?_); refine box_event ?hg (N := 3) ?hd (cs := #[.int .i64 a1_0, .string a1_1, .int .i64 a1_2]) (t := 40) ?hr ?_; (case hd => rfl); (case hg => rfl); (case hr => first | (go_simp; done) | (go_simp; rfl)); intro gb272 hg w32 hbox hb; have n0_ := Aside0.mk (Kd.V_below (Kd.V_elderB (vL HO0_1.out) gb272 (Nat.le_of_eq hg.symm)) hb); have n1_ := Aside0.mk (blk_below BK271.out hb); have n2_ := Aside0.mk (below_step (hL HB.out) hb); have n3_ := Aside0.mk (hbox); have n4_ := Above.mk ((by rw [hg]; exact (below_size (hL HB.out)) : w.heap.size ≤ gb272)); have n5_ := Above.mk ((by rw [hg]; exact (below_size (hL HB.out)) : w.heap.size ≤ gb272)); have n6_ := Aside0.mk ((by rw [hg]; exact Nat.ne_of_lt (blk_lt (g := gb271) (o := .cells #[.int .i64 a0_0, .slice A0_1 l0_1.length c0_1] 24 (0, 0)) (bL BK271.out)) : gb271 ≠ gb272)); have n7_ := Aside0.mk ((by rw [hg]; exact Nat.ne_of_gt (blk_lt (g := gb271) (o := .cells #[.int .i64 a0_0, .slice A0_1 l0_1.length c0_1] 24 (0, 0)) (bL BK271.out)) : gb272 ≠ gb271)); clear HO0_1; clear BK271; clear HB; have HO0_1 := n0_; have BK271 := n1_; have HB := n2_; have BK272 := n3_; have GW272 := n4_; have GE272 := n5_; have NB271_272 := n6_; have NB272_271 := n7_; clear n0_ n1_ n2_ n3_ n4_ n5_ n6_ n7_; clear hb hbox hg) | ((with_reducible refine gate_dst (N := 4) rfl ?_); refine box_event ?hg (N := 4) ?hd (cs := #[.int .i64 0, .slice none 0 0]) (t := 24) ?hr ?_; (case hd => rfl); (case hg => rfl); (case hr => first | (go_simp; done) | (go_simp; rfl)); intro gb273 hg w33 hbox hb; have n0_ := Aside0.mk (Kd.V_below (Kd.V_elderB (vL HO0_1.out) gb273 (Nat.le_of_eq hg.symm)) hb); have n1_ := Aside0.mk (blk_below BK271.out hb); have n2_ := Aside0.mk (blk_below BK272.out hb); have n3_ := Aside0.mk (below_step (hL HB.out) hb); have n4_ := Aside0.mk (hbox); have n5_ := Above.mk ((by rw [hg]; exact (below_size (hL HB.out)) : w.heap.size ≤ gb273)); have n6_ := Above.mk ((by rw [hg]; exact (below_size (hL HB.out)) : w.heap.size ≤ gb273)); have n7_ := Aside0.mk ((by rw [hg]; exact Nat.ne_of_lt (blk_lt (g := gb271) (o := .cells #[.int .i64 a0_0, .slice A0_1 l0_1.length c0_1] 24 (0, 0)) (bL BK271.out)) : gb271 ≠ gb273)); have n8_ := Aside0.mk ((by rw [hg]; exact Nat.ne_of_gt (blk_lt (g := gb271) (o := .cells #[.int .i64 a0_0, .slice A0_1 l0_1.length c0_1] 24 (0, 0)) (bL BK271.out)) : gb273 ≠ gb271)); have n9_ := Aside0.mk ((by rw [hg]; exact Nat.ne_of_lt (blk_lt (g := gb272) (o := .cells #[.int .i64 a1_0, .string a1_1, .int .i64 a1_2] 40 (0, 0)) (bL BK272.out)) : gb272 ≠ gb273)); have n10_ := Aside0.mk ((by rw [hg]; exact Nat.ne_of_gt (blk_lt (g := gb272) (o := .cells #[.int .i64 a1_0, .string a1_1, .int .i64 a1_2] 40 (0, 0)) (bL BK272.out)) : gb273 ≠ gb272)); clear HO0_1; clear BK271; clear BK272; clear HB; have HO0_1 := n0_; have BK271 := n1_; have BK272 := n2_; have HB := n3_; have BK273 := n4_; have GW273 := n5_; have GE273 := n6_; have NB271_273 := n7_; have NB273_271 := n8_; have NB272_273 := n9_; have NB273_272 := n10_; clear n0_ n1_ n2_ n3_ n4_ n5_ n6_ n7_ n8_ n9_ n10_; clear hb hbox hg; have hnb34 := NB272_271.out; have hnc34 := NB271_272.out; have hnb35 := NB272_273.out; have hnc35 := NB273_272.out; have hcz36_0 : w33.cell? ⟨gb272, 0, none⟩ = some (.int .i64 a1_0) := (blk_cell BK272.out 0).trans rfl; have hcz36_1 : w33.cell? ⟨gb272, 1, none⟩ = some (.string a1_1) := (blk_cell BK272.out 1).trans rfl; have hcz36_2 : w33.cell? ⟨gb272, 2, none⟩ = some (.int .i64 a1_2) := (blk_cell BK272.out 2).trans rfl; have hfz36_0 := blk_frozen BK272.out 0; have hfz36_1 := blk_frozen BK272.out 1; have hfz36_2 := blk_frozen BK272.out 2; have hnb37 := NB271_273.out; have hnc37 := NB273_271.out; have hcz38_0 : w33.cell? ⟨gb271, 0, none⟩ = some (.int .i64 a0_0) := (blk_cell BK271.out 0).trans rfl; have hcz38_1 : w33.cell? ⟨gb271, 1, none⟩ = some (.slice A0_1 l0_1.length c0_1) := (blk_cell BK271.out 1).trans rfl; have hfz38_0 := blk_frozen BK271.out 0; have hfz38_1 := blk_frozen BK271.out 1) | ((with_reducible refine gate_callee (f := 24) rfl ?_); refine goesL_ (some 31) rfl rfl Try.func24 (by kernel_rfl) rfl #[.agg #[.int .i64 a0_0, .slice A0_1 l0_1.length c0_1], .string a1_1, .int .i64 a1_2] rfl (by (try simp only [List.map_toArray, List.map_cons, List.map_nil]); first | done | rfl | (simp only [List.length_drop, List.length_take]; rfl)) ?_; (with_reducible refine (atlas_Move.calls k a0_0 _ _ l0_1 a1_1 a1_2 t284 t285 t288 _ ?side1 ?side2 A30.out).mono ?_); (case side1 => repeat (first | exact (Kd.V_reads' HO0_1.out).2.2 | (with_reducible refine Kd.C_alloc ?_ _) | (with_reducible refine Kd.C_drewN ?_ _) | (with_reducible refine Kd.C_drew ?_))); (case side2 => exact (Kd.V_reads' HO0_1.out).2.1); rintro e w39 ⟨v286, rfl, ho0, hb⟩; refine ⟨_, rfl, ?_⟩; have n0_ := Aside0.mk (Kd.V_elder' (vL HO0_1.out) (Kd.R_base ho0) hb); have n1_ := Aside0.mk (Kd.R_lower (Kd.R_newM (M := fun k_ => (w.heap.size ≤ k_)) ho0 (below_size (hL HB.out)) (fun k_ h_ => h_)) (below_size (hL HB.out))); have n2_ := Aside0.mk (blk_below BK271.out hb); have n3_ := Aside0.mk (blk_below BK272.out hb); have n4_ := Aside0.mk (blk_below BK273.out hb); have n5_ := Aside0.mk (below_step (hL HB.out) hb); clear HO0_1; clear BK271; clear BK272; clear BK273; clear HB; have HO0_1 := n0_; have HO287 := n1_; have BK271 := n2_; have BK272 := n3_; have BK273 := n4_; have HB := n5_; clear n0_ n1_ n2_ n3_ n4_ n5_; (try clear hb); (try clear hb2); (try clear hk); (try clear hi); (try clear ho0); have hcz40_0 : w39.cell? ⟨gb273, 0, none⟩ = some (.int .i64 0) := (blk_cell BK273.out 0).trans rfl; have hcz40_1 : w39.cell? ⟨gb273, 1, none⟩ = some (.slice none 0 0) := (blk_cell BK273.out 1).trans rfl; have hfz40_0 := blk_frozen BK273.out 0; have hfz40_1 := blk_frozen BK273.out 1; obtain ⟨Ao41, co41, eo41⟩ := Kd.R_slice HO287.out; subst eo41))
 refine bodyPost_ret (results_ct rfl _ _ gb273 24 #[.int .i64 t284, .slice Ao41 t285.length co41] (0, 0) _ rfl (by (with_reducible repeat (first | refine blk_drewN ?_ _ | refine blk_drew ?_ | refine blk_alloc ?_ _)); refine blk_put (cs := #[.int .i64 t284, .slice none 0 0]) ?_ 1 _ rfl; (with_reducible repeat (first | refine blk_drewN ?_ _ | refine blk_drew ?_ | refine blk_alloc ?_ _)); refine blk_put (cs := #[.int .i64 0, .slice none 0 0]) ?_ 0 _ rfl; exact bL BK273.out) Try.underlying24 rfl (by kernel_rfl)) rfl ?_
 exact ⟨_, by first | rfl | (simp [errW_none, errW_some] <;> rfl) | (simp [*, errW_none, errW_some] <;> rfl), Kd.V_mono (Kd.R_V (by (with_reducible repeat (first | apply Kd.R_alloc | apply Kd.R_drewN | apply Kd.R_drew)); exact Kd.R_mono (Kd.R_far (p := ⟨gb273, 1, none⟩) (Kd.R_far (p := ⟨gb273, 0, none⟩) (Kd.R_types HO287.out BK273.out (by decide)) (fun _ hk => hk.2) (.int .i64 t284)) (fun _ hk => hk.2) (.slice Ao41 t285.length co41)) (fun _ hk => hk.1.1))) (fun k_ hk => by first | exact ⟨(.inr (hk.1)), hk.2⟩ | exact (.inr (hk))), hL HB.out⟩

/-! ### shelfmarkref12_Begins: function 54 -/
def shelfmarkref12_Begins.l0 : Nat → ByteArray → Int → Int → List (S46) → Option (Int)
 | 0, _, _, _, _ => none
 | k + 1, x1, x5, x290000, x290001 => if x5 < (x290001.length : Int) then (if 0 ≤ x5 then (if ((rd_T46 x290001 x5).f0).toList = x1.toList then (some x5) else (shelfmarkref12_Begins.l0 k x1 (wrap64 (x5 + 1)) x290000 x290001)) else (none)) else (some (-1))
def shelfmarkref12_Begins.f (k : Nat) (a0_0 : Int) (l0_1 : List (S46)) (a1 : ByteArray) : Option (Int) := shelfmarkref12_Begins.l0 k a1 0 a0_0 l0_1
theorem shelfmarkref12_Begins.mono_l : ∀ k, (∀ y0 y1 y2 y3, LeO (shelfmarkref12_Begins.l0 k y0 y1 y2 y3) (shelfmarkref12_Begins.l0 (k + 1) y0 y1 y2 y3))
 | 0 => fun _ _ _ _ r h => by simp [shelfmarkref12_Begins.l0] at h
 | k + 1 => by
  have ih0 := shelfmarkref12_Begins.mono_l k
  ·intro y0 y1 y2 y3
   unfold shelfmarkref12_Begins.l0
   repeat' first
   | (with_reducible exact ih0 _ _ _ _)
   | (with_reducible exact LeO.refl _)
   | (with_reducible exact LeO.none _)
   | (with_reducible refine LeO.ite ?_ ?_)
   | (with_reducible refine LeO.bind ?_ (fun _ => ?_))
   | exact ih0 _ _ _ _
   | exact LeO.none _
   | refine LeO.ite ?_ ?_
   | refine LeO.bind ?_ (fun _ => ?_)
theorem shelfmarkref12_Begins.mono : ∀ a0 a1 a2 k, LeO (shelfmarkref12_Begins.f k a0 a1 a2) (shelfmarkref12_Begins.f (k + 1) a0 a1 a2) := by
 intro a0 a1 a2 k
 have ih0 := shelfmarkref12_Begins.mono_l k
 unfold shelfmarkref12_Begins.f
 repeat' first
   | (with_reducible exact ih0 _ _ _ _)
   | (with_reducible exact LeO.refl _)
   | (with_reducible exact LeO.none _)
   | (with_reducible refine LeO.ite ?_ ?_)
   | (with_reducible refine LeO.bind ?_ (fun _ => ?_))
   | exact ih0 _ _ _ _
   | exact LeO.none _
   | refine LeO.ite ?_ ?_
   | refine LeO.bind ?_ (fun _ => ?_)
set_option maxHeartbeats 8000000 in
set_option maxRecDepth 100000 in
theorem shelfmarkref12_Begins.calls (k : Nat) (a0_0 : Int) (A0_1 : Option Addr) (c0_1 : Nat) (l0_1 : List (S46)) (a1 : ByteArray) (r : Int) (w : World) (hr0_1 : Kd.C k46 w A0_1 l0_1.length l0_1) (hc0_1 : l0_1.length ≤ c0_1) (h : shelfmarkref12_Begins.f k a0_0 l0_1 a1 = some r) :
  Calls Try.prog 54 #[.agg #[.int .i64 a0_0, .slice A0_1 l0_1.length c0_1], .string a1] w fun e w' => e = .returned (.int .i64 r) ∧ Below w.heap.size w w' := by
 have hu24 := Try.underlying24
 have HR0_1 := Aside0.mk hr0_1
 have HC0_1 := Aside0.mk hc0_1
 clear hr0_1 hc0_1
 have HB := Aside0.mk (Below.refl w.heap.size w)
 have H : (shelfmarkref12_Begins.l0 k a1 0 a0_0 l0_1) = some r := h
 clear h
 have H' := Aside0.mk H
 clear H
 go_enter Try.func54, Try.ntmps54
 go_wp2_with (first | ((with_reducible refine gate_dst (N := 2) rfl ?_); refine box_event ?hg (N := 2) ?hd (cs := #[.int .i64 a0_0, .slice A0_1 l0_1.length c0_1]) (t := 24) ?hr ?_; (case hd => rfl); (case hg => rfl); (case hr => first | (go_simp; done) | (go_simp; rfl)); intro gb289 hg w3 hbox hb; have n0_ := Aside0.mk (below_step (hL HB.out) hb); have n1_ := Aside0.mk (hbox); have n2_ := Above.mk ((by rw [hg]; exact (below_size (hL HB.out)) : w.heap.size ≤ gb289)); have n3_ := Above.mk ((by rw [hg]; exact (below_size (hL HB.out)) : w.heap.size ≤ gb289)); clear HB; have HB := n0_; have BK289 := n1_; have GW289 := n2_; have GE289 := n3_; clear n0_ n1_ n2_ n3_; clear hb hbox hg))
 go_loopg [5] k (fun kq v5 w' => ∃ (x5_1 : Int), v5 = .int .i64 x5_1 ∧ Aside0 (shelfmarkref12_Begins.l0 kq a1 x5_1 a0_0 l0_1 = some r) ∧ Aside0 (kq ≤ k) ∧ Aside0 (w'.heap[gb289]? = some (.cells #[.int .i64 a0_0, (.slice A0_1 l0_1.length c0_1)] 24 (0, 0))) ∧ Aside0 (Below w.heap.size w w'))
 case atStart => exact ⟨(0), (by first | rfl | (simp; done) | (simp [*]; done) | (simp [ne_nil_bytes]; done) | (simp [eq_nil_bytes]; done)), H', ⟨Nat.le_refl _⟩, ⟨by exact bL BK289.out⟩, ⟨hL HB.out⟩⟩
 clear H'
 try clear p2
 obtain ⟨x5_1, rfl, HA, HK1, BK289, HB⟩ := hrel
 rcases gk with _ | k1
 ·exact absurd HA.out (by simp [shelfmarkref12_Begins.l0])
 have H := HA.out
 clear HA
 simp only [shelfmarkref12_Begins.l0] at H
 by_cases c4 : x5_1 < (l0_1.length : Int)
 rotate_left
 ·rw [if_neg c4] at H
  have c4b0 : decide (x5_1 < (l0_1.length : Int)) = false := decide_eq_false c4
  clear c4
  obtain rfl := Option.some.inj H
  simp only [Option.some.injEq, Prod.mk.injEq] at H
  obtain ⟨rfl⟩ := H
  have hcz9_0 : wr.cell? ⟨gb289, 0, none⟩ = some (.int .i64 a0_0) := (blk_cell BK289.out 0).trans rfl
  have hcz9_1 : wr.cell? ⟨gb289, 1, none⟩ = some (.slice A0_1 l0_1.length c0_1) := (blk_cell BK289.out 1).trans rfl
  have hfz9_0 := blk_frozen BK289.out 0
  have hfz9_1 := blk_frozen BK289.out 1
  go_wp2
  go_ret
  exact ⟨by first | rfl | (simp [errW_none, errW_some] <;> rfl) | (simp [*, errW_none, errW_some] <;> rfl), hL HB.out⟩
 rw [if_pos c4] at H
 have c4b0 : decide (x5_1 < (l0_1.length : Int)) = true := decide_eq_true c4
 clear c4
 by_cases c5 : 0 ≤ x5_1
 rotate_left
 ·rw [if_neg c5] at H
  exact absurd H (by simp)
 rw [if_pos c5] at H
 have c5b0 : decide (0 ≤ x5_1) = true := decide_eq_true c5
 clear c5
 by_cases c6 : ((rd_T46 l0_1 x5_1).f0).toList = a1.toList
 ·rw [if_pos c6] at H
  have c6b0 : (((rd_T46 l0_1 x5_1).f0).toList == a1.toList) = true := beq_iff_eq.mpr c6
  have c6b1 : (((rd_T46 l0_1 x5_1).f0).toList != a1.toList) = false := bne_eq_false_iff_eq.mpr c6
  clear c6
  obtain rfl := Option.some.inj H
  simp only [Option.some.injEq, Prod.mk.injEq] at H
  obtain ⟨rfl⟩ := H
  have hcz7_0 : wr.cell? ⟨gb289, 0, none⟩ = some (.int .i64 a0_0) := (blk_cell BK289.out 0).trans rfl
  have hcz7_1 : wr.cell? ⟨gb289, 1, none⟩ = some (.slice A0_1 l0_1.length c0_1) := (blk_cell BK289.out 1).trans rfl
  have hfz7_0 := blk_frozen BK289.out 0
  have hfz7_1 := blk_frozen BK289.out 1
  have p290 : 0 ≤ (x5_1 : Int) := of_decide_eq_true (by first | (with_reducible assumption) | assumption)
  have q290 : x5_1 < (l0_1.length : Int) := of_decide_eq_true (by first | (with_reducible assumption) | assumption)
  obtain ⟨ad290, e290, hx290_0, hx290_1⟩ := at_T46 HR0_1.out x5_1 p290 q290
  cases e290
  replace hx290_0 := (HB.out.cell (World.block_lt_of_cell? w _ hx290_0)).trans hx290_0
  replace hx290_1 := (HB.out.cell (World.block_lt_of_cell? w _ hx290_1)).trans hx290_1
  replace p290 := eq_true p290
  replace q290 := eq_true q290
  go_wp2
  go_ret
  exact ⟨by first | rfl | (simp [errW_none, errW_some] <;> rfl) | (simp [*, errW_none, errW_some] <;> rfl), hL HB.out⟩
 rw [if_neg c6] at H
 have c6b0 : (((rd_T46 l0_1 x5_1).f0).toList == a1.toList) = false := beq_eq_false_iff_ne.mpr c6
 have c6b1 : (((rd_T46 l0_1 x5_1).f0).toList != a1.toList) = true := bne_iff_ne.mpr c6
 have H' := Aside0.mk H
 clear H
 have hcz8_0 : wr.cell? ⟨gb289, 0, none⟩ = some (.int .i64 a0_0) := (blk_cell BK289.out 0).trans rfl
 have hcz8_1 : wr.cell? ⟨gb289, 1, none⟩ = some (.slice A0_1 l0_1.length c0_1) := (blk_cell BK289.out 1).trans rfl
 have hfz8_0 := blk_frozen BK289.out 0
 have hfz8_1 := blk_frozen BK289.out 1
 have p290 : 0 ≤ (x5_1 : Int) := of_decide_eq_true (by first | (with_reducible assumption) | assumption)
 have q290 : x5_1 < (l0_1.length : Int) := of_decide_eq_true (by first | (with_reducible assumption) | assumption)
 obtain ⟨ad290, e290, hx290_0, hx290_1⟩ := at_T46 HR0_1.out x5_1 p290 q290
 cases e290
 replace hx290_0 := (HB.out.cell (World.block_lt_of_cell? w _ hx290_0)).trans hx290_0
 replace hx290_1 := (HB.out.cell (World.block_lt_of_cell? w _ hx290_1)).trans hx290_1
 replace p290 := eq_true p290
 replace q290 := eq_true q290
 go_wp2
 go_roundg k1
 case measure => have := HK1.out; omega
 case rel => exact ⟨(wrap64 (x5_1 + 1)), (by first | rfl | (simp; done) | (simp [*]; done) | (simp [ne_nil_bytes]; done) | (simp [eq_nil_bytes]; done)), H', ⟨by have := HK1.out; omega⟩, ⟨by exact bL BK289.out⟩, ⟨hL HB.out⟩⟩

end Go.Proofs.Ytmgjccpolkhhhaa.PAll
