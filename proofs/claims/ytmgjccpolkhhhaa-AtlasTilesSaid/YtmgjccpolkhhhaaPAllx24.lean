-- Written by a program of this session for this claim (mp.py, over the kit's print); Lean checks it.
import Derived.Test.YtmgjccpolkhhhaaPAllx0
import Derived.Test.YtmgjccpolkhhhaaPAllx3
import Derived.Test.YtmgjccpolkhhhaaPAllx5
import Derived.Test.YtmgjccpolkhhhaaPAllx10
import Derived.Test.YtmgjccpolkhhhaaPAllx13
import Derived.Test.YtmgjccpolkhhhaaPAllx17
import Derived.Test.YtmgjccpolkhhhaaPAllx23
namespace Go.Proofs.Ytmgjccpolkhhhaa.PAll
open Go.RowKit Go.Proofs.YtmgjccpolkhhhaaW.PrintWords Go.Proofs.YtmgjccpolkhhhaaW.PrintLast Go.Proofs.YtmgjccpolkhhhaaW.PrintMore Go.Proofs.Ytmgjccpolkhhhaa.Fv Go.Proofs.Ytmgjccpolkhhhaa.Hl
attribute [local go_sem] max2_int min2_int max_two min_two max_three min_three max_four min_four str_gtr str_leq str_geq cell_set2   -- for this text's walks alone
set_option linter.unusedVariables false
set_option linter.unusedSimpArgs false

/-! ### shelfmarklaw12_AtlasTiles: its contract -/
set_option maxHeartbeats 8000000 in
set_option maxRecDepth 100000 in
theorem shelfmarklaw12_AtlasTiles.calls (k : Nat) (a0 : Int) (A1 : Option Addr) (c1 : Nat) (l1 : List (S40)) (A2 : Option Addr) (c2 : Nat) (l2 : List ByteArray) (r : Bool) (w : World) (hr1 : Kd.C k40 w A1 l1.length l1) (hc1 : l1.length ≤ c1) (hr2 : Kd.C Kd.string w A2 l2.length l2) (hc2 : l2.length ≤ c2) (h : shelfmarklaw12_AtlasTiles.f k a0 l1 l2 = some r) (hlaw : r = true) :
  Calls Try.prog 7 #[.int .i64 a0, .slice A1 l1.length c1, .slice A2 l2.length c2] w fun e w' => e = .returned (.bool r) ∧ Below w.heap.size w w' := by
 have HLAW := Aside0.mk hlaw
 clear hlaw
 have hu24 := Try.underlying24
 have hu40 := Try.underlying40
 have hu30 := Try.underlying30
 have HR1 := Aside0.mk hr1
 have HC1 := Aside0.mk hc1
 clear hr1 hc1
 have HR2 := Aside0.mk hr2
 have HC2 := Aside0.mk hc2
 clear hr2 hc2
 have HB := Aside0.mk (Below.refl w.heap.size w)
 have H : ((shelfmarklaw12_awake.f k).bind fun t399 => (if t399 = true then (if (l1.length : Int) > 60 then (shelfmarklaw12_AtlasTiles.j0 k a0 l1 l2 true) else (shelfmarklaw12_AtlasTiles.j0 k a0 l1 l2 (decide ((l2.length : Int) > 20)))) else (some false))) = some r := h
 clear h
 replace H := Option.bind_eq_some_iff.mp H
 obtain ⟨t399, A40, H⟩ := H
 replace H : (if t399 = true then (if (l1.length : Int) > 60 then (shelfmarklaw12_AtlasTiles.j0 k a0 l1 l2 true) else (shelfmarklaw12_AtlasTiles.j0 k a0 l1 l2 (decide ((l2.length : Int) > 20)))) else (some false)) = some r := H
 have A4 := Aside0.mk A40
 clear A40
 by_cases c5 : t399 = true
 rotate_left
 ·replace c5 := Bool.eq_false_iff.mpr c5
  subst c5
  have H1 : (some false) = some r := by rw [if_neg (show ¬ (false = true) by decide)] at H; exact H
  clear H
  have H := H1
  clear H1
  obtain rfl := Option.some.inj H
  exact absurd HLAW.out (by decide)
 subst c5
 have H1 : (if (l1.length : Int) > 60 then (shelfmarklaw12_AtlasTiles.j0 k a0 l1 l2 true) else (shelfmarklaw12_AtlasTiles.j0 k a0 l1 l2 (decide ((l2.length : Int) > 20)))) = some r := by rw [if_pos rfl] at H; exact H
 clear H
 have H := H1
 clear H1
 have HC6 := Aside0.mk H
 clear H
 go_enter Try.func7, Try.ntmps7
 go_upto_region 3 with (first | ((with_reducible refine gate_callee (f := 9) rfl ?_); refine goesL_ (some 24) rfl rfl Try.func9 (by as_aux_lemma => kernel_rfl) rfl #[] rfl (by (try simp only [List.map_toArray, List.map_cons, List.map_nil]); first | done | rfl | (simp only [List.length_drop, List.length_take]; rfl)) ?_; (with_reducible refine (shelfmarklaw12_awake.calls k  true _ A4.out).mono ?_); rintro e w7 ⟨rfl, hb⟩; refine ⟨_, rfl, ?_⟩; have n0_ := Aside0.mk (below_step (hL HB.out) hb); clear HB; have HB := n0_; clear n0_; (try clear hb); (try clear hb2); (try clear hk); (try clear hi)))
 (try simp only [Act.put, sT, sZ, sS])
 go_cut [33] (fun v33 wc => ∃ (kq : Nat) (x33_5 : Bool), v33 = .bool x33_5 ∧ Aside0 (shelfmarklaw12_AtlasTiles.j0 kq a0 l1 l2 x33_5 = some r) ∧ Aside0 (kq ≤ k) ∧ Aside0 (Below w.heap.size w wc))
 case first =>
  have H := HC6.out
  clear HC6
  by_cases c8 : (l1.length : Int) > 60
  ·rw [if_pos c8] at H
   have c8b0 : decide (60 < (l1.length : Int)) = true := decide_eq_true c8
   have c8b1 : decide (60 < l1.length) = true := decide_eq_true (by omega)
   clear c8
   (first | rw [c8b0] | (simp only [i64_w, i32_w]; rw [c8b0]) | skip)
   have H' := Aside0.mk H
   clear H
   go_wp2
   go_meet
   case rel => exact ⟨_, (true), (by first | rfl | (simp; done) | (simp [*]; done) | (simp [ne_nil_bytes]; done) | (simp [eq_nil_bytes]; done)), H', ⟨by first | omega | exact Nat.le_refl _⟩, ⟨hL HB.out⟩⟩
  rw [if_neg c8] at H
  have c8b0 : decide (60 < (l1.length : Int)) = false := decide_eq_false c8
  have c8b1 : decide (60 < l1.length) = false := decide_eq_false (by omega)
  clear c8
  (first | rw [c8b0] | (simp only [i64_w, i32_w]; rw [c8b0]) | skip)
  have H' := Aside0.mk H
  clear H
  go_wp2
  go_meet
  case rel => exact ⟨_, (decide ((l2.length : Int) > 20)), (by first | rfl | (simp; done) | (simp [*]; done) | (simp [ne_nil_bytes]; done) | (simp [eq_nil_bytes]; done)), H', ⟨by first | omega | exact Nat.le_refl _⟩, ⟨hL HB.out⟩⟩
 as_aux_lemma =>
  clear HC6
  try clear c1
  try clear c2
  try clear p2
  try clear c5
  try clear c7
  try clear c8
  try clear c8b0
  try clear c8b0z
  try clear c8b1
  try clear c8b1z
  obtain ⟨kq, x33_5, rfl, HA, HJ5, HB⟩ := hcut
  rcases kq with _ | kj5
  ·exact absurd HA.out (by simp [shelfmarklaw12_AtlasTiles.j0])
  have H := HA.out
  clear HA
  simp only [shelfmarklaw12_AtlasTiles.j0] at H
  by_cases c9 : x33_5 = true
  ·subst c9
   have H1 : (some true) = some r := by rw [if_pos rfl] at H; exact H
   clear H
   have H := H1
   clear H1
   obtain rfl := Option.some.inj H
   simp only [Option.some.injEq, Prod.mk.injEq] at H
   obtain ⟨rfl⟩ := H
   go_wp2
   go_ret
   exact ⟨by first | rfl | (simp [errW_none, errW_some] <;> rfl) | (simp [*, errW_none, errW_some] <;> rfl), hL HB.out⟩
  replace c9 := Bool.eq_false_iff.mpr c9
  subst c9
  have H1 : ((atlas_Start.f a0).bind fun bt400 => (if bt400.2.2 = 0 then (shelfmarklaw12_AtlasTiles.l0 kj5 l1 l2 0 bt400.1 bt400.2.1) else (if a0 < 1 then (some true) else (some (decide (a0 > 4)))))) = some r := by rw [if_neg (show ¬ (false = true) by decide)] at H; exact H
  clear H
  have H := H1
  clear H1
  replace H := Option.bind_eq_some_iff.mp H
  obtain ⟨⟨t400, t401, t404⟩, A100, H⟩ := H
  replace H : (if t404 = 0 then (shelfmarklaw12_AtlasTiles.l0 kj5 l1 l2 0 t400 t401) else (if a0 < 1 then (some true) else (some (decide (a0 > 4))))) = some r := H
  have A10 := Aside0.mk A100
  clear A100
  by_cases c11 : t404 = 0
  rotate_left
  ·rw [if_neg c11] at H
   have c11b0 : (t404 == 0) = false := beq_eq_false_iff_ne.mpr c11
   have c11b1 : (t404 != 0) = true := bne_iff_ne.mpr c11
   by_cases c150 : a0 < 1
   ·rw [if_pos c150] at H
    have c150b0 : decide (a0 < 1) = true := decide_eq_true c150
    clear c150
    obtain rfl := Option.some.inj H
    simp only [Option.some.injEq, Prod.mk.injEq] at H
    obtain ⟨rfl⟩ := H
    go_wp2_with (first | ((with_reducible refine gate_callee (f := 15) rfl ?_); refine goesL_ (some 36) rfl rfl Try.func15 (by as_aux_lemma => kernel_rfl) rfl #[.int .i64 a0] rfl (by (try simp only [List.map_toArray, List.map_cons, List.map_nil]); first | done | rfl | (simp only [List.length_drop, List.length_take]; rfl)) ?_; (with_reducible refine (atlas_Start.calls a0 t400 t401 t404 _ A10.out).mono ?_); rintro e w151 ⟨v402, rfl, ho0, hb⟩; refine ⟨_, rfl, ?_⟩; have n0_ := Aside0.mk (Kd.R_lower ho0 (below_size (hL HB.out))); have n1_ := Aside0.mk (below_step (hL HB.out) hb); clear HB; have HO403 := n0_; have HB := n1_; clear n0_ n1_; (try clear hb); (try clear hb2); (try clear hk); (try clear hi); (try clear ho0)) | ((with_reducible refine gate_dst (N := 7) rfl ?_); (try (refine gate_guard (by rfl) ?_; dsimp only)); refine box_event ?hg (N := 7) ?hd (cs := #[.int .i64 0, .slice none 0 0]) (t := 24) ?hr ?_; (case hd => rfl); (case hg => rfl); (case hr => first | (go_simp; done) | (go_simp; rfl)); intro gb405 hg w152 hbox hb; have n0_ := Aside0.mk (Kd.R_below (rL HO403.out) hb); have n1_ := Aside0.mk (below_step (hL HB.out) hb); have n2_ := Aside0.mk (hbox); have n3_ := Above.mk ((by rw [hg]; exact (below_size (hL HB.out)) : w.heap.size ≤ gb405)); have n4_ := Above.mk ((by rw [hg]; exact (below_size (hL HB.out)) : w.heap.size ≤ gb405)); clear HO403; clear HB; have HO403 := n0_; have HB := n1_; have BK405 := n2_; have GW405 := n3_; have GE405 := n4_; clear n0_ n1_ n2_ n3_ n4_; clear hb hbox hg; have hcz153_0 : w152.cell? ⟨gb405, 0, none⟩ = some (.int .i64 0) := (blk_cell BK405.out 0).trans rfl; have hcz153_1 : w152.cell? ⟨gb405, 1, none⟩ = some (.slice none 0 0) := (blk_cell BK405.out 1).trans rfl; have hfz153_0 := blk_frozen BK405.out 0; have hfz153_1 := blk_frozen BK405.out 1; obtain ⟨Ao154, co154, eo154⟩ := Kd.R_slice HO403.out; subst eo154))
    go_ret
    exact ⟨by first | rfl | (simp [errW_none, errW_some] <;> rfl) | (simp [*, errW_none, errW_some] <;> rfl), hL HB.out⟩
   rw [if_neg c150] at H
   have c150b0 : decide (a0 < 1) = false := decide_eq_false c150
   clear c150
   obtain rfl := Option.some.inj H
   simp only [Option.some.injEq, Prod.mk.injEq] at H
   obtain ⟨rfl⟩ := H
   go_wp2_with (first | ((with_reducible refine gate_callee (f := 15) rfl ?_); refine goesL_ (some 36) rfl rfl Try.func15 (by as_aux_lemma => kernel_rfl) rfl #[.int .i64 a0] rfl (by (try simp only [List.map_toArray, List.map_cons, List.map_nil]); first | done | rfl | (simp only [List.length_drop, List.length_take]; rfl)) ?_; (with_reducible refine (atlas_Start.calls a0 t400 t401 t404 _ A10.out).mono ?_); rintro e w155 ⟨v402, rfl, ho0, hb⟩; refine ⟨_, rfl, ?_⟩; have n0_ := Aside0.mk (Kd.R_lower ho0 (below_size (hL HB.out))); have n1_ := Aside0.mk (below_step (hL HB.out) hb); clear HB; have HO403 := n0_; have HB := n1_; clear n0_ n1_; (try clear hb); (try clear hb2); (try clear hk); (try clear hi); (try clear ho0)) | ((with_reducible refine gate_dst (N := 7) rfl ?_); (try (refine gate_guard (by rfl) ?_; dsimp only)); refine box_event ?hg (N := 7) ?hd (cs := #[.int .i64 0, .slice none 0 0]) (t := 24) ?hr ?_; (case hd => rfl); (case hg => rfl); (case hr => first | (go_simp; done) | (go_simp; rfl)); intro gb405 hg w156 hbox hb; have n0_ := Aside0.mk (Kd.R_below (rL HO403.out) hb); have n1_ := Aside0.mk (below_step (hL HB.out) hb); have n2_ := Aside0.mk (hbox); have n3_ := Above.mk ((by rw [hg]; exact (below_size (hL HB.out)) : w.heap.size ≤ gb405)); have n4_ := Above.mk ((by rw [hg]; exact (below_size (hL HB.out)) : w.heap.size ≤ gb405)); clear HO403; clear HB; have HO403 := n0_; have HB := n1_; have BK405 := n2_; have GW405 := n3_; have GE405 := n4_; clear n0_ n1_ n2_ n3_ n4_; clear hb hbox hg; have hcz157_0 : w156.cell? ⟨gb405, 0, none⟩ = some (.int .i64 0) := (blk_cell BK405.out 0).trans rfl; have hcz157_1 : w156.cell? ⟨gb405, 1, none⟩ = some (.slice none 0 0) := (blk_cell BK405.out 1).trans rfl; have hfz157_0 := blk_frozen BK405.out 0; have hfz157_1 := blk_frozen BK405.out 1; obtain ⟨Ao158, co158, eo158⟩ := Kd.R_slice HO403.out; subst eo158))
   go_ret
   exact ⟨by first | rfl | (simp [errW_none, errW_some] <;> rfl) | (simp [*, errW_none, errW_some] <;> rfl), hL HB.out⟩
  rw [if_pos c11] at H
  have c11b0 : (t404 == 0) = true := beq_iff_eq.mpr c11
  have c11b1 : (t404 != 0) = false := bne_eq_false_iff_eq.mpr c11
  clear c11
  have H' := Aside0.mk H
  clear H
  go_wp2_with (first | ((with_reducible refine gate_callee (f := 15) rfl ?_); refine goesL_ (some 36) rfl rfl Try.func15 (by as_aux_lemma => kernel_rfl) rfl #[.int .i64 a0] rfl (by (try simp only [List.map_toArray, List.map_cons, List.map_nil]); first | done | rfl | (simp only [List.length_drop, List.length_take]; rfl)) ?_; (with_reducible refine (atlas_Start.calls a0 t400 t401 t404 _ A10.out).mono ?_); rintro e w12 ⟨v402, rfl, ho0, hb⟩; refine ⟨_, rfl, ?_⟩; have n0_ := Aside0.mk (Kd.R_lower ho0 (below_size (hL HB.out))); have n1_ := Aside0.mk (below_step (hL HB.out) hb); clear HB; have HO403 := n0_; have HB := n1_; clear n0_ n1_; (try clear hb); (try clear hb2); (try clear hk); (try clear hi); (try clear ho0)) | ((with_reducible refine gate_dst (N := 7) rfl ?_); (try (refine gate_guard (by rfl) ?_; dsimp only)); refine box_event ?hg (N := 7) ?hd (cs := #[.int .i64 0, .slice none 0 0]) (t := 24) ?hr ?_; (case hd => rfl); (case hg => rfl); (case hr => first | (go_simp; done) | (go_simp; rfl)); intro gb405 hg w13 hbox hb; have n0_ := Aside0.mk (Kd.R_below (rL HO403.out) hb); have n1_ := Aside0.mk (below_step (hL HB.out) hb); have n2_ := Aside0.mk (hbox); have n3_ := Above.mk ((by rw [hg]; exact (below_size (hL HB.out)) : w.heap.size ≤ gb405)); have n4_ := Above.mk ((by rw [hg]; exact (below_size (hL HB.out)) : w.heap.size ≤ gb405)); clear HO403; clear HB; have HO403 := n0_; have HB := n1_; have BK405 := n2_; have GW405 := n3_; have GE405 := n4_; clear n0_ n1_ n2_ n3_ n4_; clear hb hbox hg; have hcz14_0 : w13.cell? ⟨gb405, 0, none⟩ = some (.int .i64 0) := (blk_cell BK405.out 0).trans rfl; have hcz14_1 : w13.cell? ⟨gb405, 1, none⟩ = some (.slice none 0 0) := (blk_cell BK405.out 1).trans rfl; have hfz14_0 := blk_frozen BK405.out 0; have hfz14_1 := blk_frozen BK405.out 1; obtain ⟨Ao15, co15, eo15⟩ := Kd.R_slice HO403.out; subst eo15))
  go_loopg [9] kj5 (fun kq v9 w' => ∃ (x9_2 : Int) (x406000_2 : Int) (x406001_2 : List (S46)) (u406001 : Value), v9 = .int .i64 x9_2 ∧ Aside0 (shelfmarklaw12_AtlasTiles.l0 kq l1 l2 x9_2 x406000_2 x406001_2 = some r) ∧ Aside0 (kq ≤ kj5) ∧ Aside0 (Kd.V k46 46 w' w.heap.size (fun k_ => k_ ≠ gb405) u406001 x406001_2) ∧ Aside0 (w'.heap[gb405]? = some (.cells #[.int .i64 x406000_2, u406001] 24 (0, 0))) ∧ Aside0 (Below w.heap.size w w'))
  case atStart => exact ⟨(0), (t400), (t401), (.slice Ao15 t401.length co15), (by first | rfl | (simp; done) | (simp [*]; done) | (simp [ne_nil_bytes]; done) | (simp [eq_nil_bytes]; done)), H', ⟨Nat.le_refl _⟩, ⟨Kd.R_V (by (with_reducible repeat (first | apply Kd.R_alloc | apply Kd.R_drewN | apply Kd.R_drew)); exact Kd.R_mono (Kd.R_far (p := ⟨gb405, 1, none⟩) (Kd.R_far (p := ⟨gb405, 0, none⟩) (Kd.R_types (Kd.R_types HO403.out BK405.out (by decide)) BK405.out (by decide)) (fun _ hk => hk.2) (.int .i64 t400)) (fun _ hk => hk.2) (.slice Ao15 t401.length co15)) (fun _ hk => hk.1.2))⟩, ⟨by (with_reducible repeat (first | refine blk_drewN ?_ _ | refine blk_drew ?_ | refine blk_alloc ?_ _)); refine blk_put (cs := #[.int .i64 t400, .slice none 0 0]) ?_ 1 _ rfl; (with_reducible repeat (first | refine blk_drewN ?_ _ | refine blk_drew ?_ | refine blk_alloc ?_ _)); refine blk_put (cs := #[.int .i64 0, .slice none 0 0]) ?_ 0 _ rfl; exact bL BK405.out⟩, ⟨hL HB.out⟩⟩
  as_aux_lemma =>
   clear H'
   try clear c1
   try clear c2
   try clear p2
   try clear c5
   try clear c7
   try clear c8
   try clear c8b0
   try clear c8b0z
   try clear c8b1
   try clear c8b1z
   try clear c9
   try clear c11
   try clear c11b0
   try clear c11b0z
   try clear c11b1
   try clear c11b1z
   try clear c15
   try clear hcz14_0
   try clear hcz14_1
   try clear hfz14_0
   try clear hfz14_1
   try clear p2
   obtain ⟨x9_2, x406000_2, x406001_2, u406001, rfl, HA, HK2, HO_406001, BK405, HB⟩ := hrel
   rcases gk with _ | k2
   ·exact absurd HA.out (by simp [shelfmarklaw12_AtlasTiles.l0])
   have H := HA.out
   clear HA
   simp only [shelfmarklaw12_AtlasTiles.l0] at H
   by_cases c16 : x9_2 < (l1.length : Int)
   rotate_left
   ·rw [if_neg c16] at H
    have c16b0 : decide (x9_2 < (l1.length : Int)) = false := decide_eq_false c16
    clear c16
    obtain rfl := Option.some.inj H
    simp only [Option.some.injEq, Prod.mk.injEq] at H
    obtain ⟨rfl⟩ := H
    go_wp2
    go_ret
    exact ⟨by first | rfl | (simp [errW_none, errW_some] <;> rfl) | (simp [*, errW_none, errW_some] <;> rfl), hL HB.out⟩
   rw [if_pos c16] at H
   have c16b0 : decide (x9_2 < (l1.length : Int)) = true := decide_eq_true c16
   clear c16
   by_cases c17 : 0 ≤ x9_2
   rotate_left
   ·rw [if_neg c17] at H
    exact absurd H (by simp)
   rw [if_pos c17] at H
   have c17b0 : decide (0 ≤ x9_2) = true := decide_eq_true c17
   clear c17
   by_cases c18 : (((rd_T40 l1 x9_2).f1).size : Int) > 300
   ·rw [if_pos c18] at H
    have c18b0 : decide (300 < (((rd_T40 l1 x9_2).f1).size : Int)) = true := decide_eq_true c18
    have c18b1 : decide (300 < ((rd_T40 l1 x9_2).f1).size) = true := decide_eq_true (by omega)
    clear c18
    obtain rfl := Option.some.inj H
    simp only [Option.some.injEq, Prod.mk.injEq] at H
    obtain ⟨rfl⟩ := H
    have p406 : 0 ≤ (x9_2 : Int) := of_decide_eq_true (by first | (with_reducible assumption) | assumption)
    have q406 : x9_2 < (l1.length : Int) := of_decide_eq_true (by first | (with_reducible assumption) | assumption)
    obtain ⟨ad406, e406, hx406_0, hx406_1, hx406_2⟩ := at_T40 HR1.out x9_2 p406 q406
    cases e406
    replace hx406_0 := (HB.out.cell (World.block_lt_of_cell? w _ hx406_0)).trans hx406_0
    replace hx406_1 := (HB.out.cell (World.block_lt_of_cell? w _ hx406_1)).trans hx406_1
    replace hx406_2 := (HB.out.cell (World.block_lt_of_cell? w _ hx406_2)).trans hx406_2
    replace p406 := eq_true p406
    replace q406 := eq_true q406
    go_wp2
    go_ret
    exact ⟨by first | rfl | (simp [errW_none, errW_some] <;> rfl) | (simp [*, errW_none, errW_some] <;> rfl), hL HB.out⟩
   rw [if_neg c18] at H
   have c18b0 : decide (300 < (((rd_T40 l1 x9_2).f1).size : Int)) = false := decide_eq_false c18
   have c18b1 : decide (300 < ((rd_T40 l1 x9_2).f1).size) = false := decide_eq_false (by omega)
   clear c18
   replace H := Option.bind_eq_some_iff.mp H
   obtain ⟨⟨t408, t409, t412⟩, A190, H⟩ := H
   replace H : (if t412 = 0 then (if ((rd_T40 l1 x9_2).f0) ≥ 1 then (if ((rd_T40 l1 x9_2).f0) ≤ 3 then (shelfmarklaw12_AtlasTiles.j2 k2 l1 l2 x9_2 (t408 != (wrap64 (x406000_2 + 1))) x406000_2 x406001_2 t408 t409) else (shelfmarklaw12_AtlasTiles.j2 k2 l1 l2 x9_2 false x406000_2 x406001_2 t408 t409)) else (shelfmarklaw12_AtlasTiles.j2 k2 l1 l2 x9_2 false x406000_2 x406001_2 t408 t409)) else (if (t409.length : Int) = 0 then (if t408 = 0 then (shelfmarklaw12_AtlasTiles.l0 k2 l1 l2 (wrap64 (x9_2 + 1)) x406000_2 x406001_2) else (some false)) else (some false))) = some r := H
   have A19 := Aside0.mk A190
   clear A190
   by_cases c20 : t412 = 0
   rotate_left
   ·rw [if_neg c20] at H
    have c20b0 : (t412 == 0) = false := beq_eq_false_iff_ne.mpr c20
    have c20b1 : (t412 != 0) = true := bne_iff_ne.mpr c20
    by_cases c138 : (t409.length : Int) = 0
    rotate_left
    ·rw [if_neg c138] at H
     have c138b0 : ((t409.length : Int) == 0) = false := beq_eq_false_iff_ne.mpr c138
     have c138b1 : ((t409.length : Int) != 0) = true := bne_iff_ne.mpr c138
     have c138b2 : ¬ (t409 = []) := fun h_ => c138 (by rw [h_]; rfl)
     obtain rfl := Option.some.inj H
     exact absurd HLAW.out (by decide)
    rw [if_pos c138] at H
    have c138b0 : ((t409.length : Int) == 0) = true := beq_iff_eq.mpr c138
    have c138b1 : ((t409.length : Int) != 0) = false := bne_eq_false_iff_eq.mpr c138
    clear c138
    by_cases c139 : t408 = 0
    rotate_left
    ·rw [if_neg c139] at H
     have c139b0 : (t408 == 0) = false := beq_eq_false_iff_ne.mpr c139
     have c139b1 : (t408 != 0) = true := bne_iff_ne.mpr c139
     obtain rfl := Option.some.inj H
     exact absurd HLAW.out (by decide)
    rw [if_pos c139] at H
    have c139b0 : (t408 == 0) = true := beq_iff_eq.mpr c139
    have c139b1 : (t408 != 0) = false := bne_eq_false_iff_eq.mpr c139
    clear c139
    have H' := Aside0.mk H
    clear H
    have p406 : 0 ≤ (x9_2 : Int) := of_decide_eq_true (by first | (with_reducible assumption) | assumption)
    have q406 : x9_2 < (l1.length : Int) := of_decide_eq_true (by first | (with_reducible assumption) | assumption)
    obtain ⟨ad406, e406, hx406_0, hx406_1, hx406_2⟩ := at_T40 HR1.out x9_2 p406 q406
    cases e406
    replace hx406_0 := (HB.out.cell (World.block_lt_of_cell? w _ hx406_0)).trans hx406_0
    replace hx406_1 := (HB.out.cell (World.block_lt_of_cell? w _ hx406_1)).trans hx406_1
    replace hx406_2 := (HB.out.cell (World.block_lt_of_cell? w _ hx406_2)).trans hx406_2
    replace p406 := eq_true p406
    replace q406 := eq_true q406
    obtain ⟨Ao140, co140, eo140⟩ := Kd.V_slice HO_406001.out
    subst eo140
    try go_wp2
    have n0_ := Aside0.mk (Kd.V_drew HO_406001.out)
    have n1_ := Aside0.mk (blk_drew BK405.out)
    have n2_ := Aside0.mk (below_drew1 HB.out)
    clear HO_406001
    clear BK405
    clear HB
    have HO_406001 := n0_
    have BK405 := n1_
    have HB := n2_
    clear n0_ n1_ n2_
    have p407 : 0 ≤ (x9_2 : Int) := of_decide_eq_true (by first | (with_reducible assumption) | assumption)
    have q407 : x9_2 < (l1.length : Int) := of_decide_eq_true (by first | (with_reducible assumption) | assumption)
    obtain ⟨ad407, e407, hx407_0, hx407_1, hx407_2⟩ := at_T40 HR1.out x9_2 p407 q407
    have hw407_2 := hx407_2
    have hw407_1 := hx407_1
    have hw407_0 := hx407_0
    obtain rfl : ad406 = ad407 := (by injection e407)
    replace hx407_0 := (HB.out.cell (World.block_lt_of_cell? w _ hx407_0)).trans hx407_0
    replace hx407_1 := (HB.out.cell (World.block_lt_of_cell? w _ hx407_1)).trans hx407_1
    replace hx407_2 := (HB.out.cell (World.block_lt_of_cell? w _ hx407_2)).trans hx407_2
    replace p407 := eq_true p407
    replace q407 := eq_true q407
    refine start_ (n := 12) (S := fun w' => w'.cell? ⟨gb405, 0, none⟩ = some (.int .i64 x406000_2) ∧ w'.cell? ⟨gb405, 1, none⟩ = some (.slice Ao140 x406001_2.length co140) ∧ w'.cell? (ad406.add ((x9_2).toNat * 3)) = some (.int .i64 ((rd_T40 l1 x9_2).f0)) ∧ w'.cell? ⟨(ad406.add ((x9_2).toNat * 3)).block, (ad406.add ((x9_2).toNat * 3)).off + 1, none⟩ = some (.string ((rd_T40 l1 x9_2).f1)) ∧ w'.cell? ⟨(ad406.add ((x9_2).toNat * 3)).block, (ad406.add ((x9_2).toNat * 3)).off + 2, none⟩ = some (.int .i64 ((rd_T40 l1 x9_2).f2))) (ds := []) #[false, false, false, false, false, false, false, false, false, false, false, false] (by as_aux_lemma => kernel_rfl) rfl rfl ⟨(blk_cell BK405.out 0).trans rfl, (blk_cell BK405.out 1).trans rfl, ((HB.out.cell (World.block_lt_of_cell? w _ hw407_0)).trans hw407_0), ((HB.out.cell (World.block_lt_of_cell? w _ hw407_1)).trans hw407_1), ((HB.out.cell (World.block_lt_of_cell? w _ hw407_2)).trans hw407_2)⟩ (fun hHeld => ?_); refine with_tabW shelfmarklaw12_AtlasTiles.tab13 shelfmarklaw12_AtlasTiles.bits13 (fun HT_ HW_ => ?_)
    generalize wr.drew = w141 at HO_406001 BK405 HB hx407_0 hx407_1 hx407_2 hHeld ⊢
    refine pure_ (i := 1) (N := some 62) (v := ?_) (a' := ?_) #[false, true, false, false, false, false, false, false, false, false, false, false] rfl rfl (any_of HT_.out (by as_aux_lemma => kernel_rfl)) (fun _ _ _ h => h) (Or.inl ⟨by rfl, ?_⟩) ?_ ?_
    rotate_left
    ·intro w'
     go_simp
     with_reducible rfl
    rotate_left
    ·simp only [Act.put, sT, sZ, sS, i64_w, i32_w]
     rfl
    refine pure_ (i := 2) (N := some 63) (v := ?_) (a' := ?_) #[false, true, true, false, false, false, false, false, false, false, false, false] rfl rfl (any_of HT_.out (by as_aux_lemma => kernel_rfl)) (fun _ _ _ h => h) (Or.inl ⟨by rfl, ?_⟩) ?_ ?_
    rotate_left
    ·intro w'
     go_simp
     with_reducible rfl
    rotate_left
    ·simp only [Act.put, sT, sZ, sS, i64_w, i32_w]
     rfl
    refine pure_ (i := 3) (N := some 64) (v := ?_) (a' := ?_) #[false, true, true, true, false, false, false, false, false, false, false, false] rfl rfl (any_of HT_.out (by as_aux_lemma => kernel_rfl)) (fun _ _ _ h => h) (Or.inl ⟨by rfl, ?_⟩) ?_ ?_
    rotate_left
    ·intro w'
     go_simp
     with_reducible rfl
    rotate_left
    ·simp only [Act.put, sT, sZ, sS, i64_w, i32_w]
     rfl
    refine take_ (i := 0) (N := some 61) (v := ?_) (a' := ?_) #[true, true, true, true, false, false, false, false, false, false, false, false] rfl rfl (take_ofW HT_.out HW_.out (by as_aux_lemma => kernel_rfl)) (fun _ _ _ h => h) (Or.inl ⟨by rfl, ?_⟩) hHeld ?_ ?_
    rotate_left
    ·rintro w' ⟨s0, s1, s2, s3, s4⟩
     go_simp
     with_reducible rfl
    rotate_left
    ·simp only [Act.put, sT, sZ, sS, i64_w, i32_w]
     rfl
    refine take_ (i := 4) (N := some 65) (v := ?_) (a' := ?_) #[true, true, true, true, true, false, false, false, false, false, false, false] rfl rfl (take_ofW HT_.out HW_.out (by as_aux_lemma => kernel_rfl)) (fun _ _ _ h => h) (Or.inl ⟨by rfl, ?_⟩) hHeld ?_ ?_
    rotate_left
    ·rintro w' ⟨s0, s1, s2, s3, s4⟩
     go_simp
     with_reducible rfl
    rotate_left
    ·simp only [Act.put, sT, sZ, sS, i64_w, i32_w]
     rfl
    refine join_ (σ := Value × Nat) 2 #[true, true, true, true, true, true, true, true, true, true, false, false] (fun s_ => [(66, .tuple #[.agg #[.int .i64 t408, s_.1], .int .i64 t412]), (10, .pointer (some ⟨s_.2, 0, none⟩)), (60, .tuple #[.agg #[.int .i64 t408, s_.1], .int .i64 t412]), (67, .agg #[.int .i64 t408, s_.1]), (68, .int .i64 t412)]) (fun s_ w' => (w'.cell? ⟨gb405, 0, none⟩ = some (.int .i64 x406000_2) ∧ w'.cell? ⟨gb405, 1, none⟩ = some (.slice Ao140 x406001_2.length co140) ∧ w'.cell? (ad406.add ((x9_2).toNat * 3)) = some (.int .i64 ((rd_T40 l1 x9_2).f0)) ∧ w'.cell? ⟨(ad406.add ((x9_2).toNat * 3)).block, (ad406.add ((x9_2).toNat * 3)).off + 1, none⟩ = some (.string ((rd_T40 l1 x9_2).f1)) ∧ w'.cell? ⟨(ad406.add ((x9_2).toNat * 3)).block, (ad406.add ((x9_2).toNat * 3)).off + 2, none⟩ = some (.int .i64 ((rd_T40 l1 x9_2).f2))) ∧ (Kd.V k46 46 w' w.heap.size (fun k_ => k_ ≠ gb405 ∧ k_ ≠ s_.2) s_.1 t409) ∧ (Kd.V k46 46 w' w.heap.size (fun k_ => k_ ≠ gb405 ∧ k_ ≠ s_.2) (.slice Ao140 x406001_2.length co140) x406001_2) ∧ (w'.heap[gb405]? = some (.cells #[.int .i64 x406000_2, .slice Ao140 x406001_2.length co140] 24 (0, 0))) ∧ (w'.heap[s_.2]? = some (.cells #[.int .i64 0, .slice none 0 0] 24 (0, 0))) ∧ (w.heap.size ≤ s_.2) ∧ (w.heap.size ≤ s_.2) ∧ (gb405 ≠ s_.2) ∧ (s_.2 ≠ gb405) ∧ (Below w.heap.size w w')) ?_ ?_
    rotate_left
    ·intro hCont
     refine two_ (i := 5) (j := 9) (Ni := some 66) (Nj := some 10) #[true, true, true, true, true, true, false, false, false, false, false, false] #[true, true, true, true, true, false, false, false, false, true, false, false] rfl rfl rfl rfl (two_of HT_.out (by as_aux_lemma => kernel_rfl)) (by decide) (by decide) (fun K hK => ?_) (fun K hK => ?_)
     ·skip
      refine goes_ Try.func20 (by as_aux_lemma => kernel_rfl) rfl #[.agg #[.int .i64 x406000_2, .slice Ao140 x406001_2.length co140], .agg #[.int .i64 ((rd_T40 l1 x9_2).f0), .string ((rd_T40 l1 x9_2).f1), .int .i64 ((rd_T40 l1 x9_2).f2)]] (by rfl) rfl rfl (by (try simp only [List.map_toArray, List.map_cons, List.map_nil]); first | done | rfl | (simp only [List.length_drop, List.length_take]; rfl)) ?_
      with_reducible refine (shelfmarklaw12_act.calls k2 x406000_2 (fun k_ => k_ ≠ gb405) _ _ x406001_2 ((rd_T40 l1 x9_2).f0) ((rd_T40 l1 x9_2).f1) ((rd_T40 l1 x9_2).f2) t408 t409 t412 _ ?side1 A19.out).mono ?_
      (case side1 => exact HO_406001.out)
      rintro e w142 ⟨v410, rfl, ho0, hb⟩
      refine ⟨_, rfl, ?_⟩
      have n0_ := Aside0.mk (Kd.V_below (vL HO_406001.out) hb)
      have n1_ := Aside0.mk (Kd.V_lower (Kd.V_mono (ok' := fun k_ => k_ ≠ gb405) ho0 (fun k_ hk_ => Or.elim hk_ (fun hs_ => hs_) (fun hn_ => (Kd.freshB (g := gb405) (o := .cells #[.int .i64 x406000_2, .slice Ao140 x406001_2.length co140] 24 (0, 0)) (bL BK405.out) k_ hn_)))) (below_size (hL HB.out)))
      have n2_ := Aside0.mk (blk_below BK405.out hb)
      have n3_ := Aside0.mk (below_step (hL HB.out) hb)
      clear HO_406001
      clear BK405
      clear HB
      have HO_406001 := n0_
      have HO411 := n1_
      have BK405 := n2_
      have HB := n3_
      clear n0_ n1_ n2_ n3_
      (try clear hb)
      (try clear hb2)
      (try clear hk)
      (try clear hi)
      (try clear ho0)
      refine hK.out _ _ ⟨(blk_cell BK405.out 0).trans rfl, (blk_cell BK405.out 1).trans rfl, ((HB.out.cell (World.block_lt_of_cell? w _ hw407_0)).trans hw407_0), ((HB.out.cell (World.block_lt_of_cell? w _ hw407_1)).trans hw407_1), ((HB.out.cell (World.block_lt_of_cell? w _ hw407_2)).trans hw407_2)⟩ (fun hHeld => ?_)
      clear hK K
      refine norm_ (a' := ?_) ?_ ?_
      rotate_left
      ·show Act.put _ (some 66) _ = _
       simp only [Act.put, sT, sZ, sS, i64_w, i32_w]
       rfl
      refine pure_ (i := 6) (N := some 60) (v := ?_) (a' := ?_) #[true, true, true, true, true, true, true, false, false, false, false, false] rfl rfl (any_of HT_.out (by as_aux_lemma => kernel_rfl)) (fun _ _ _ h => h) (Or.inl ⟨by rfl, ?_⟩) ?_ ?_
      rotate_left
      ·intro w'
       go_simp
       with_reducible rfl
      rotate_left
      ·simp only [Act.put, sT, sZ, sS, i64_w, i32_w]
       rfl
      refine pure_ (i := 7) (N := some 67) (v := ?_) (a' := ?_) #[true, true, true, true, true, true, true, true, false, false, false, false] rfl rfl (any_of HT_.out (by as_aux_lemma => kernel_rfl)) (fun _ _ _ h => h) (Or.inl ⟨by rfl, ?_⟩) ?_ ?_
      rotate_left
      ·intro w'
       go_simp
       with_reducible rfl
      rotate_left
      ·simp only [Act.put, sT, sZ, sS, i64_w, i32_w]
       rfl
      refine pure_ (i := 8) (N := some 68) (v := ?_) (a' := ?_) #[true, true, true, true, true, true, true, true, true, false, false, false] rfl rfl (any_of HT_.out (by as_aux_lemma => kernel_rfl)) (fun _ _ _ h => h) (Or.inl ⟨by rfl, ?_⟩) ?_ ?_
      rotate_left
      ·intro w'
       go_simp
       with_reducible rfl
      rotate_left
      ·simp only [Act.put, sT, sZ, sS, i64_w, i32_w]
       rfl
      refine one_ (i := 9) (N := some 10) #[true, true, true, true, true, true, true, true, true, true, false, false] rfl rfl (one_of HT_.out (by as_aux_lemma => kernel_rfl)) (by decide) (fun K hK => ?_)
      refine box_step ?hg (N := 10) ?hd (cs := #[.int .i64 0, .slice none 0 0]) (t := 24) ?hr ?_; (case hd => rfl); (case hg => rfl); (case hr => first | (go_simp; done) | (go_simp; rfl))
      intro gb413 hg w143 hbox hb
      have n0_ := Aside0.mk (Kd.V_below (Kd.V_elderB (vL HO_406001.out) gb413 (Nat.le_of_eq hg.symm)) hb)
      have n1_ := Aside0.mk (Kd.V_below (Kd.V_elderB (vL HO411.out) gb413 (Nat.le_of_eq hg.symm)) hb)
      have n2_ := Aside0.mk (blk_below BK405.out hb)
      have n3_ := Aside0.mk (below_step (hL HB.out) hb)
      have n4_ := Aside0.mk (hbox)
      have n5_ := Above.mk ((by rw [hg]; exact (below_size (hL HB.out)) : w.heap.size ≤ gb413))
      have n6_ := Above.mk ((by rw [hg]; exact (below_size (hL HB.out)) : w.heap.size ≤ gb413))
      have n7_ := Aside0.mk ((by rw [hg]; exact Nat.ne_of_lt (blk_lt (g := gb405) (o := .cells #[.int .i64 x406000_2, .slice Ao140 x406001_2.length co140] 24 (0, 0)) (bL BK405.out)) : gb405 ≠ gb413))
      have n8_ := Aside0.mk ((by rw [hg]; exact Nat.ne_of_gt (blk_lt (g := gb405) (o := .cells #[.int .i64 x406000_2, .slice Ao140 x406001_2.length co140] 24 (0, 0)) (bL BK405.out)) : gb413 ≠ gb405))
      clear HO_406001
      clear HO411
      clear BK405
      clear HB
      have HO_406001 := n0_
      have HO411 := n1_
      have BK405 := n2_
      have HB := n3_
      have BK413 := n4_
      have GW413 := n5_
      have GE413 := n6_
      have NB405_413 := n7_
      have NB413_405 := n8_
      clear n0_ n1_ n2_ n3_ n4_ n5_ n6_ n7_ n8_
      clear hb hbox hg
      refine hK.out _ _ ⟨(blk_cell BK405.out 0).trans rfl, (blk_cell BK405.out 1).trans rfl, ((HB.out.cell (World.block_lt_of_cell? w _ hw407_0)).trans hw407_0), ((HB.out.cell (World.block_lt_of_cell? w _ hw407_1)).trans hw407_1), ((HB.out.cell (World.block_lt_of_cell? w _ hw407_2)).trans hw407_2)⟩ (fun hHeld => ?_)
      clear hK K
      refine norm_ (a' := ?_) ?_ ?_
      rotate_left
      ·show Act.put _ (some 10) _ = _
       simp only [Act.put, sT, sZ, sS, i64_w, i32_w]
       rfl
      exact norm_ (by simp only [putAll, Act.put, sT, sZ, sS]) (hCont (v410, gb413) _ ⟨hHeld, (vL HO411.out), (vL HO_406001.out), (bL BK405.out), (bL BK413.out), GW413.out, GE413.out, NB405_413.out, NB413_405.out, (hL HB.out)⟩)
     skip
     refine box_step ?hg (N := 10) ?hd (cs := #[.int .i64 0, .slice none 0 0]) (t := 24) ?hr ?_; (case hd => rfl); (case hg => rfl); (case hr => first | (go_simp; done) | (go_simp; rfl))
     intro gb413 hg w142 hbox hb
     have n0_ := Aside0.mk (Kd.V_below (Kd.V_elderB (vL HO_406001.out) gb413 (Nat.le_of_eq hg.symm)) hb)
     have n1_ := Aside0.mk (blk_below BK405.out hb)
     have n2_ := Aside0.mk (below_step (hL HB.out) hb)
     have n3_ := Aside0.mk (hbox)
     have n4_ := Above.mk ((by rw [hg]; exact (below_size (hL HB.out)) : w.heap.size ≤ gb413))
     have n5_ := Above.mk ((by rw [hg]; exact (below_size (hL HB.out)) : w.heap.size ≤ gb413))
     have n6_ := Aside0.mk ((by rw [hg]; exact Nat.ne_of_lt (blk_lt (g := gb405) (o := .cells #[.int .i64 x406000_2, .slice Ao140 x406001_2.length co140] 24 (0, 0)) (bL BK405.out)) : gb405 ≠ gb413))
     have n7_ := Aside0.mk ((by rw [hg]; exact Nat.ne_of_gt (blk_lt (g := gb405) (o := .cells #[.int .i64 x406000_2, .slice Ao140 x406001_2.length co140] 24 (0, 0)) (bL BK405.out)) : gb413 ≠ gb405))
     clear HO_406001
     clear BK405
     clear HB
     have HO_406001 := n0_
     have BK405 := n1_
     have HB := n2_
     have BK413 := n3_
     have GW413 := n4_
     have GE413 := n5_
     have NB405_413 := n6_
     have NB413_405 := n7_
     clear n0_ n1_ n2_ n3_ n4_ n5_ n6_ n7_
     clear hb hbox hg
     refine hK.out _ _ ⟨(blk_cell BK405.out 0).trans rfl, (blk_cell BK405.out 1).trans rfl, ((HB.out.cell (World.block_lt_of_cell? w _ hw407_0)).trans hw407_0), ((HB.out.cell (World.block_lt_of_cell? w _ hw407_1)).trans hw407_1), ((HB.out.cell (World.block_lt_of_cell? w _ hw407_2)).trans hw407_2)⟩ (fun hHeld => ?_)
     clear hK K
     refine norm_ (a' := ?_) ?_ ?_
     rotate_left
     ·show Act.put _ (some 10) _ = _
      simp only [Act.put, sT, sZ, sS, i64_w, i32_w]
      rfl
     refine one_ (i := 5) (N := some 66) #[true, true, true, true, true, true, false, false, false, true, false, false] rfl rfl (one_of HT_.out (by as_aux_lemma => kernel_rfl)) (by decide) (fun K hK => ?_)
     refine goes_ Try.func20 (by as_aux_lemma => kernel_rfl) rfl #[.agg #[.int .i64 x406000_2, .slice Ao140 x406001_2.length co140], .agg #[.int .i64 ((rd_T40 l1 x9_2).f0), .string ((rd_T40 l1 x9_2).f1), .int .i64 ((rd_T40 l1 x9_2).f2)]] (by rfl) rfl rfl (by (try simp only [List.map_toArray, List.map_cons, List.map_nil]); first | done | rfl | (simp only [List.length_drop, List.length_take]; rfl)) ?_
     with_reducible refine (shelfmarklaw12_act.calls k2 x406000_2 (fun k_ => (k_ ≠ gb405 ∧ k_ ≠ gb413)) _ _ x406001_2 ((rd_T40 l1 x9_2).f0) ((rd_T40 l1 x9_2).f1) ((rd_T40 l1 x9_2).f2) t408 t409 t412 _ ?side1 A19.out).mono ?_
     (case side1 => exact HO_406001.out)
     rintro e w143 ⟨v410, rfl, ho0, hb⟩
     refine ⟨_, rfl, ?_⟩
     have n0_ := Aside0.mk (Kd.V_below (vL HO_406001.out) hb)
     have n1_ := Aside0.mk (Kd.V_lower (Kd.V_mono (ok' := fun k_ => k_ ≠ gb405 ∧ k_ ≠ gb413) ho0 (fun k_ hk_ => ⟨Or.elim hk_ (fun hs_ => hs_.1) (fun hn_ => (Kd.freshB (g := gb405) (o := .cells #[.int .i64 x406000_2, .slice Ao140 x406001_2.length co140] 24 (0, 0)) (bL BK405.out) k_ hn_)), Or.elim hk_ (fun hs_ => hs_.2) (fun hn_ => (Kd.freshB (g := gb413) (o := .cells #[.int .i64 0, .slice none 0 0] 24 (0, 0)) (bL BK413.out) k_ hn_))⟩)) (below_size (hL HB.out)))
     have n2_ := Aside0.mk (blk_below BK405.out hb)
     have n3_ := Aside0.mk (blk_below BK413.out hb)
     have n4_ := Aside0.mk (below_step (hL HB.out) hb)
     clear HO_406001
     clear BK405
     clear BK413
     clear HB
     have HO_406001 := n0_
     have HO411 := n1_
     have BK405 := n2_
     have BK413 := n3_
     have HB := n4_
     clear n0_ n1_ n2_ n3_ n4_
     (try clear hb)
     (try clear hb2)
     (try clear hk)
     (try clear hi)
     (try clear ho0)
     refine hK.out _ _ ⟨(blk_cell BK405.out 0).trans rfl, (blk_cell BK405.out 1).trans rfl, ((HB.out.cell (World.block_lt_of_cell? w _ hw407_0)).trans hw407_0), ((HB.out.cell (World.block_lt_of_cell? w _ hw407_1)).trans hw407_1), ((HB.out.cell (World.block_lt_of_cell? w _ hw407_2)).trans hw407_2)⟩ (fun hHeld => ?_)
     clear hK K
     refine norm_ (a' := ?_) ?_ ?_
     rotate_left
     ·show Act.put _ (some 66) _ = _
      simp only [Act.put, sT, sZ, sS, i64_w, i32_w]
      rfl
     refine pure_ (i := 6) (N := some 60) (v := ?_) (a' := ?_) #[true, true, true, true, true, true, true, false, false, true, false, false] rfl rfl (any_of HT_.out (by as_aux_lemma => kernel_rfl)) (fun _ _ _ h => h) (Or.inl ⟨by rfl, ?_⟩) ?_ ?_
     rotate_left
     ·intro w'
      go_simp
      with_reducible rfl
     rotate_left
     ·simp only [Act.put, sT, sZ, sS, i64_w, i32_w]
      rfl
     refine pure_ (i := 7) (N := some 67) (v := ?_) (a' := ?_) #[true, true, true, true, true, true, true, true, false, true, false, false] rfl rfl (any_of HT_.out (by as_aux_lemma => kernel_rfl)) (fun _ _ _ h => h) (Or.inl ⟨by rfl, ?_⟩) ?_ ?_
     rotate_left
     ·intro w'
      go_simp
      with_reducible rfl
     rotate_left
     ·simp only [Act.put, sT, sZ, sS, i64_w, i32_w]
      rfl
     refine pure_ (i := 8) (N := some 68) (v := ?_) (a' := ?_) #[true, true, true, true, true, true, true, true, true, true, false, false] rfl rfl (any_of HT_.out (by as_aux_lemma => kernel_rfl)) (fun _ _ _ h => h) (Or.inl ⟨by rfl, ?_⟩) ?_ ?_
     rotate_left
     ·intro w'
      go_simp
      with_reducible rfl
     rotate_left
     ·simp only [Act.put, sT, sZ, sS, i64_w, i32_w]
      rfl
     exact norm_ (by simp only [putAll, Act.put, sT, sZ, sS]) (hCont (v410, gb413) _ ⟨hHeld, (vL HO411.out), (vL HO_406001.out), (bL BK405.out), (bL BK413.out), GW413.out, GE413.out, NB405_413.out, NB413_405.out, (hL HB.out)⟩)
    rintro ⟨v410, gb413⟩ w144 ⟨hS_, h0_, h1_, h2_, h3_, h4_, h5_, h6_, h7_, h8_⟩
    have n0_ : Aside0 (Kd.V k46 46 w144 w.heap.size (fun k_ => k_ ≠ gb405 ∧ k_ ≠ gb413) v410 t409) := ⟨h0_⟩
    have n1_ : Aside0 (Kd.V k46 46 w144 w.heap.size (fun k_ => k_ ≠ gb405 ∧ k_ ≠ gb413) (.slice Ao140 x406001_2.length co140) x406001_2) := ⟨h1_⟩
    have n2_ : Aside0 (w144.heap[gb405]? = some (.cells #[.int .i64 x406000_2, .slice Ao140 x406001_2.length co140] 24 (0, 0))) := ⟨h2_⟩
    have n3_ : Aside0 (w144.heap[gb413]? = some (.cells #[.int .i64 0, .slice none 0 0] 24 (0, 0))) := ⟨h3_⟩
    have n4_ : Above w gb413 := ⟨h4_⟩
    have n5_ : Above w gb413 := ⟨h5_⟩
    have n6_ : Aside0 (gb405 ≠ gb413) := ⟨h6_⟩
    have n7_ : Aside0 (gb413 ≠ gb405) := ⟨h7_⟩
    have n8_ : Aside0 (Below w.heap.size w w144) := ⟨h8_⟩
    clear HO_406001
    clear BK405
    clear HB
    clear h0_ h1_ h2_ h3_ h4_ h5_ h6_ h7_ h8_
    have HO411 := n0_
    have HO_406001 := n1_
    have BK405 := n2_
    have BK413 := n3_
    have GW413 := n4_
    have GE413 := n5_
    have NB405_413 := n6_
    have NB413_405 := n7_
    have HB := n8_
    clear n0_ n1_ n2_ n3_ n4_ n5_ n6_ n7_ n8_
    have hHeld : w144.cell? ⟨gb405, 0, none⟩ = some (.int .i64 x406000_2) ∧ w144.cell? ⟨gb405, 1, none⟩ = some (.slice Ao140 x406001_2.length co140) ∧ w144.cell? (ad406.add ((x9_2).toNat * 3)) = some (.int .i64 ((rd_T40 l1 x9_2).f0)) ∧ w144.cell? ⟨(ad406.add ((x9_2).toNat * 3)).block, (ad406.add ((x9_2).toNat * 3)).off + 1, none⟩ = some (.string ((rd_T40 l1 x9_2).f1)) ∧ w144.cell? ⟨(ad406.add ((x9_2).toNat * 3)).block, (ad406.add ((x9_2).toNat * 3)).off + 2, none⟩ = some (.int .i64 ((rd_T40 l1 x9_2).f2)) := hS_
    obtain ⟨Ao146, co146, eo146⟩ := Kd.V_slice HO411.out
    (first | subst eo146 | (injection eo146 with f1_ f2_ f3_; have f4_ := f1_.symm; have f5_ := f3_.symm; clear f1_ f2_ f3_; subst f4_; subst f5_))
    refine norm_ (a' := ?_) ?_ ?_
    rotate_left
    ·simp only [putAll, Act.put, sT, sZ, sS]
     rfl
    refine one_ (i := 10) (N := none) #[true, true, true, true, true, true, true, true, true, true, true, false] rfl rfl (one_of HT_.out (by as_aux_lemma => kernel_rfl)) (by decide) (fun K hK => ?_)
    have hs145 : w144.cell? ⟨gb413, 0, none⟩ = some (.int .i64 0) := (blk_cell BK413.out 0).trans rfl
    have hfs145 := blk_frozen BK413.out 0
    have hns145_0 := NB405_413.out
    have hms145_0 := NB413_405.out
    have hs147 : w144.cell? ⟨gb413, 1, none⟩ = some (.slice none 0 0) := (blk_cell BK413.out 1).trans rfl
    have hfs147 := blk_frozen BK413.out 1
    have hns147_0 := NB405_413.out
    have hms147_0 := NB413_405.out
    refine skip_ (w1 := ?_) (by rfl) rfl ?_ ?_
    rotate_left
    ·go_simp
     rfl
    refine hK.out _ _ ⟨((cell_far (p := ⟨gb413, _, none⟩) NB405_413.out _).trans (((cell_far (p := ⟨gb413, _, none⟩) NB405_413.out _).trans (hHeld.1)))), ((cell_far (p := ⟨gb413, _, none⟩) NB405_413.out _).trans (((cell_far (p := ⟨gb413, _, none⟩) NB405_413.out _).trans (hHeld.2.1)))), ((cell_far (p := ⟨gb413, _, none⟩) (by first | exact Nat.ne_of_lt (Nat.lt_of_lt_of_le (by have := World.block_lt_of_cell? _ _ hw407_0; first | rwa [add_block] at this | exact this) GW413.out) | (rw [add_block]; exact Nat.ne_of_lt (Nat.lt_of_lt_of_le (by have := World.block_lt_of_cell? _ _ hw407_0; first | rwa [add_block] at this | exact this) GW413.out)) | (show (Addr.add _ _).block ≠ _; rw [add_block]; exact Nat.ne_of_lt (Nat.lt_of_lt_of_le (by have := World.block_lt_of_cell? _ _ hw407_0; first | rwa [add_block] at this | exact this) GW413.out)) | (dsimp only; exact Nat.ne_of_lt (Nat.lt_of_lt_of_le (by have := World.block_lt_of_cell? _ _ hw407_0; first | rwa [add_block] at this | exact this) GW413.out))) _).trans (((cell_far (p := ⟨gb413, _, none⟩) (by first | exact Nat.ne_of_lt (Nat.lt_of_lt_of_le (by have := World.block_lt_of_cell? _ _ hw407_0; first | rwa [add_block] at this | exact this) GW413.out) | (rw [add_block]; exact Nat.ne_of_lt (Nat.lt_of_lt_of_le (by have := World.block_lt_of_cell? _ _ hw407_0; first | rwa [add_block] at this | exact this) GW413.out)) | (show (Addr.add _ _).block ≠ _; rw [add_block]; exact Nat.ne_of_lt (Nat.lt_of_lt_of_le (by have := World.block_lt_of_cell? _ _ hw407_0; first | rwa [add_block] at this | exact this) GW413.out)) | (dsimp only; exact Nat.ne_of_lt (Nat.lt_of_lt_of_le (by have := World.block_lt_of_cell? _ _ hw407_0; first | rwa [add_block] at this | exact this) GW413.out))) _).trans (hHeld.2.2.1)))), ((cell_far (p := ⟨gb413, _, none⟩) (by first | exact Nat.ne_of_lt (Nat.lt_of_lt_of_le (by have := World.block_lt_of_cell? _ _ hw407_1; first | rwa [add_block] at this | exact this) GW413.out) | (rw [add_block]; exact Nat.ne_of_lt (Nat.lt_of_lt_of_le (by have := World.block_lt_of_cell? _ _ hw407_1; first | rwa [add_block] at this | exact this) GW413.out)) | (show (Addr.add _ _).block ≠ _; rw [add_block]; exact Nat.ne_of_lt (Nat.lt_of_lt_of_le (by have := World.block_lt_of_cell? _ _ hw407_1; first | rwa [add_block] at this | exact this) GW413.out)) | (dsimp only; exact Nat.ne_of_lt (Nat.lt_of_lt_of_le (by have := World.block_lt_of_cell? _ _ hw407_1; first | rwa [add_block] at this | exact this) GW413.out))) _).trans (((cell_far (p := ⟨gb413, _, none⟩) (by first | exact Nat.ne_of_lt (Nat.lt_of_lt_of_le (by have := World.block_lt_of_cell? _ _ hw407_1; first | rwa [add_block] at this | exact this) GW413.out) | (rw [add_block]; exact Nat.ne_of_lt (Nat.lt_of_lt_of_le (by have := World.block_lt_of_cell? _ _ hw407_1; first | rwa [add_block] at this | exact this) GW413.out)) | (show (Addr.add _ _).block ≠ _; rw [add_block]; exact Nat.ne_of_lt (Nat.lt_of_lt_of_le (by have := World.block_lt_of_cell? _ _ hw407_1; first | rwa [add_block] at this | exact this) GW413.out)) | (dsimp only; exact Nat.ne_of_lt (Nat.lt_of_lt_of_le (by have := World.block_lt_of_cell? _ _ hw407_1; first | rwa [add_block] at this | exact this) GW413.out))) _).trans (hHeld.2.2.2.1)))), ((cell_far (p := ⟨gb413, _, none⟩) (by first | exact Nat.ne_of_lt (Nat.lt_of_lt_of_le (by have := World.block_lt_of_cell? _ _ hw407_2; first | rwa [add_block] at this | exact this) GW413.out) | (rw [add_block]; exact Nat.ne_of_lt (Nat.lt_of_lt_of_le (by have := World.block_lt_of_cell? _ _ hw407_2; first | rwa [add_block] at this | exact this) GW413.out)) | (show (Addr.add _ _).block ≠ _; rw [add_block]; exact Nat.ne_of_lt (Nat.lt_of_lt_of_le (by have := World.block_lt_of_cell? _ _ hw407_2; first | rwa [add_block] at this | exact this) GW413.out)) | (dsimp only; exact Nat.ne_of_lt (Nat.lt_of_lt_of_le (by have := World.block_lt_of_cell? _ _ hw407_2; first | rwa [add_block] at this | exact this) GW413.out))) _).trans (((cell_far (p := ⟨gb413, _, none⟩) (by first | exact Nat.ne_of_lt (Nat.lt_of_lt_of_le (by have := World.block_lt_of_cell? _ _ hw407_2; first | rwa [add_block] at this | exact this) GW413.out) | (rw [add_block]; exact Nat.ne_of_lt (Nat.lt_of_lt_of_le (by have := World.block_lt_of_cell? _ _ hw407_2; first | rwa [add_block] at this | exact this) GW413.out)) | (show (Addr.add _ _).block ≠ _; rw [add_block]; exact Nat.ne_of_lt (Nat.lt_of_lt_of_le (by have := World.block_lt_of_cell? _ _ hw407_2; first | rwa [add_block] at this | exact this) GW413.out)) | (dsimp only; exact Nat.ne_of_lt (Nat.lt_of_lt_of_le (by have := World.block_lt_of_cell? _ _ hw407_2; first | rwa [add_block] at this | exact this) GW413.out))) _).trans (hHeld.2.2.2.2))))⟩ (fun hHeld => ?_)
    clear hK K
    refine pure_ (i := 11) (N := some 11) (v := ?_) (a' := ?_) #[true, true, true, true, true, true, true, true, true, true, true, true] rfl rfl (any_of HT_.out (by as_aux_lemma => kernel_rfl)) (fun _ _ _ h => h) (Or.inl ⟨by rfl, ?_⟩) ?_ ?_
    rotate_left
    ·intro w'
     go_simp
     with_reducible rfl
    rotate_left
    ·simp only [Act.put, sT, sZ, sS, i64_w, i32_w]
     rfl
    refine done_ (done_of HT_.out (by as_aux_lemma => kernel_rfl)) ?_
    have hnb148 := NB413_405.out
    have hnc148 := NB405_413.out
    have hcz149_0 : w144.cell? ⟨gb413, 0, none⟩ = some (.int .i64 0) := (blk_cell BK413.out 0).trans rfl
    have hcz149_1 : w144.cell? ⟨gb413, 1, none⟩ = some (.slice none 0 0) := (blk_cell BK413.out 1).trans rfl
    have hfz149_0 := blk_frozen BK413.out 0
    have hfz149_1 := blk_frozen BK413.out 1
    try go_wp2
    go_roundg k2
    case measure => have := HJ5.out; have := HK2.out; omega
    case rel => exact ⟨(wrap64 (x9_2 + 1)), (x406000_2), (x406001_2), (.slice Ao140 x406001_2.length co140), (by first | rfl | (simp; done) | (simp [*]; done) | (simp [ne_nil_bytes]; done) | (simp [eq_nil_bytes]; done)), H', ⟨by have := HJ5.out; have := HK2.out; omega⟩, ⟨by (with_reducible repeat (first | apply Kd.V_alloc | apply Kd.V_drewN | apply Kd.V_drew)); exact Kd.V_mono (Kd.V_far (p := ⟨gb413, 1, none⟩) (Kd.V_far (p := ⟨gb413, 0, none⟩) (Kd.V_mono HO_406001.out (fun k_ hk => (⟨hk, hk.2⟩ : _ ∧ k_ ≠ gb413))) (fun _ hk => hk.2) (.int .i64 t408)) (fun _ hk => hk.2) (.slice Ao146 t409.length co146)) (fun _ hk => hk.1.1)⟩, ⟨by (with_reducible repeat (first | refine blk_drewN ?_ _ | refine blk_drew ?_ | refine blk_alloc ?_ _)); refine blk_far ?_ NB405_413.out _; (with_reducible repeat (first | refine blk_drewN ?_ _ | refine blk_drew ?_ | refine blk_alloc ?_ _)); refine blk_far ?_ NB405_413.out _; exact bL BK405.out⟩, ⟨hL HB.out⟩⟩
   rw [if_pos c20] at H
   have c20b0 : (t412 == 0) = true := beq_iff_eq.mpr c20
   have c20b1 : (t412 != 0) = false := bne_eq_false_iff_eq.mpr c20
   clear c20
   have HC21 := Aside0.mk H
   clear H
   have p406 : 0 ≤ (x9_2 : Int) := of_decide_eq_true (by first | (with_reducible assumption) | assumption)
   have q406 : x9_2 < (l1.length : Int) := of_decide_eq_true (by first | (with_reducible assumption) | assumption)
   obtain ⟨ad406, e406, hx406_0, hx406_1, hx406_2⟩ := at_T40 HR1.out x9_2 p406 q406
   cases e406
   replace hx406_0 := (HB.out.cell (World.block_lt_of_cell? w _ hx406_0)).trans hx406_0
   replace hx406_1 := (HB.out.cell (World.block_lt_of_cell? w _ hx406_1)).trans hx406_1
   replace hx406_2 := (HB.out.cell (World.block_lt_of_cell? w _ hx406_2)).trans hx406_2
   replace p406 := eq_true p406
   replace q406 := eq_true q406
   obtain ⟨Ao22, co22, eo22⟩ := Kd.V_slice HO_406001.out
   subst eo22
   try go_wp2
   have n0_ := Aside0.mk (Kd.V_drew HO_406001.out)
   have n1_ := Aside0.mk (blk_drew BK405.out)
   have n2_ := Aside0.mk (below_drew1 HB.out)
   clear HO_406001
   clear BK405
   clear HB
   have HO_406001 := n0_
   have BK405 := n1_
   have HB := n2_
   clear n0_ n1_ n2_
   have p407 : 0 ≤ (x9_2 : Int) := of_decide_eq_true (by first | (with_reducible assumption) | assumption)
   have q407 : x9_2 < (l1.length : Int) := of_decide_eq_true (by first | (with_reducible assumption) | assumption)
   obtain ⟨ad407, e407, hx407_0, hx407_1, hx407_2⟩ := at_T40 HR1.out x9_2 p407 q407
   have hw407_2 := hx407_2
   have hw407_1 := hx407_1
   have hw407_0 := hx407_0
   obtain rfl : ad406 = ad407 := (by injection e407)
   replace hx407_0 := (HB.out.cell (World.block_lt_of_cell? w _ hx407_0)).trans hx407_0
   replace hx407_1 := (HB.out.cell (World.block_lt_of_cell? w _ hx407_1)).trans hx407_1
   replace hx407_2 := (HB.out.cell (World.block_lt_of_cell? w _ hx407_2)).trans hx407_2
   replace p407 := eq_true p407
   replace q407 := eq_true q407
   refine start_ (n := 12) (S := fun w' => w'.cell? ⟨gb405, 0, none⟩ = some (.int .i64 x406000_2) ∧ w'.cell? ⟨gb405, 1, none⟩ = some (.slice Ao22 x406001_2.length co22) ∧ w'.cell? (ad406.add ((x9_2).toNat * 3)) = some (.int .i64 ((rd_T40 l1 x9_2).f0)) ∧ w'.cell? ⟨(ad406.add ((x9_2).toNat * 3)).block, (ad406.add ((x9_2).toNat * 3)).off + 1, none⟩ = some (.string ((rd_T40 l1 x9_2).f1)) ∧ w'.cell? ⟨(ad406.add ((x9_2).toNat * 3)).block, (ad406.add ((x9_2).toNat * 3)).off + 2, none⟩ = some (.int .i64 ((rd_T40 l1 x9_2).f2))) (ds := []) #[false, false, false, false, false, false, false, false, false, false, false, false] (by as_aux_lemma => kernel_rfl) rfl rfl ⟨(blk_cell BK405.out 0).trans rfl, (blk_cell BK405.out 1).trans rfl, ((HB.out.cell (World.block_lt_of_cell? w _ hw407_0)).trans hw407_0), ((HB.out.cell (World.block_lt_of_cell? w _ hw407_1)).trans hw407_1), ((HB.out.cell (World.block_lt_of_cell? w _ hw407_2)).trans hw407_2)⟩ (fun hHeld => ?_); refine with_tabW shelfmarklaw12_AtlasTiles.tab13 shelfmarklaw12_AtlasTiles.bits13 (fun HT_ HW_ => ?_)
   generalize wr.drew = w23 at HO_406001 BK405 HB hx407_0 hx407_1 hx407_2 hHeld ⊢
   refine pure_ (i := 1) (N := some 62) (v := ?_) (a' := ?_) #[false, true, false, false, false, false, false, false, false, false, false, false] rfl rfl (any_of HT_.out (by as_aux_lemma => kernel_rfl)) (fun _ _ _ h => h) (Or.inl ⟨by rfl, ?_⟩) ?_ ?_
   rotate_left
   ·intro w'
    go_simp
    with_reducible rfl
   rotate_left
   ·simp only [Act.put, sT, sZ, sS, i64_w, i32_w]
    rfl
   refine pure_ (i := 2) (N := some 63) (v := ?_) (a' := ?_) #[false, true, true, false, false, false, false, false, false, false, false, false] rfl rfl (any_of HT_.out (by as_aux_lemma => kernel_rfl)) (fun _ _ _ h => h) (Or.inl ⟨by rfl, ?_⟩) ?_ ?_
   rotate_left
   ·intro w'
    go_simp
    with_reducible rfl
   rotate_left
   ·simp only [Act.put, sT, sZ, sS, i64_w, i32_w]
    rfl
   refine pure_ (i := 3) (N := some 64) (v := ?_) (a' := ?_) #[false, true, true, true, false, false, false, false, false, false, false, false] rfl rfl (any_of HT_.out (by as_aux_lemma => kernel_rfl)) (fun _ _ _ h => h) (Or.inl ⟨by rfl, ?_⟩) ?_ ?_
   rotate_left
   ·intro w'
    go_simp
    with_reducible rfl
   rotate_left
   ·simp only [Act.put, sT, sZ, sS, i64_w, i32_w]
    rfl
   refine take_ (i := 0) (N := some 61) (v := ?_) (a' := ?_) #[true, true, true, true, false, false, false, false, false, false, false, false] rfl rfl (take_ofW HT_.out HW_.out (by as_aux_lemma => kernel_rfl)) (fun _ _ _ h => h) (Or.inl ⟨by rfl, ?_⟩) hHeld ?_ ?_
   rotate_left
   ·rintro w' ⟨s0, s1, s2, s3, s4⟩
    go_simp
    with_reducible rfl
   rotate_left
   ·simp only [Act.put, sT, sZ, sS, i64_w, i32_w]
    rfl
   refine take_ (i := 4) (N := some 65) (v := ?_) (a' := ?_) #[true, true, true, true, true, false, false, false, false, false, false, false] rfl rfl (take_ofW HT_.out HW_.out (by as_aux_lemma => kernel_rfl)) (fun _ _ _ h => h) (Or.inl ⟨by rfl, ?_⟩) hHeld ?_ ?_
   rotate_left
   ·rintro w' ⟨s0, s1, s2, s3, s4⟩
    go_simp
    with_reducible rfl
   rotate_left
   ·simp only [Act.put, sT, sZ, sS, i64_w, i32_w]
    rfl
   refine join_ (σ := Value × Nat) 2 #[true, true, true, true, true, true, true, true, true, true, false, false] (fun s_ => [(66, .tuple #[.agg #[.int .i64 t408, s_.1], .int .i64 t412]), (10, .pointer (some ⟨s_.2, 0, none⟩)), (60, .tuple #[.agg #[.int .i64 t408, s_.1], .int .i64 t412]), (67, .agg #[.int .i64 t408, s_.1]), (68, .int .i64 t412)]) (fun s_ w' => (w'.cell? ⟨gb405, 0, none⟩ = some (.int .i64 x406000_2) ∧ w'.cell? ⟨gb405, 1, none⟩ = some (.slice Ao22 x406001_2.length co22) ∧ w'.cell? (ad406.add ((x9_2).toNat * 3)) = some (.int .i64 ((rd_T40 l1 x9_2).f0)) ∧ w'.cell? ⟨(ad406.add ((x9_2).toNat * 3)).block, (ad406.add ((x9_2).toNat * 3)).off + 1, none⟩ = some (.string ((rd_T40 l1 x9_2).f1)) ∧ w'.cell? ⟨(ad406.add ((x9_2).toNat * 3)).block, (ad406.add ((x9_2).toNat * 3)).off + 2, none⟩ = some (.int .i64 ((rd_T40 l1 x9_2).f2))) ∧ (Kd.V k46 46 w' w.heap.size (fun k_ => k_ ≠ gb405 ∧ k_ ≠ s_.2) s_.1 t409) ∧ (Kd.V k46 46 w' w.heap.size (fun k_ => k_ ≠ gb405 ∧ k_ ≠ s_.2) (.slice Ao22 x406001_2.length co22) x406001_2) ∧ (w'.heap[gb405]? = some (.cells #[.int .i64 x406000_2, .slice Ao22 x406001_2.length co22] 24 (0, 0))) ∧ (w'.heap[s_.2]? = some (.cells #[.int .i64 0, .slice none 0 0] 24 (0, 0))) ∧ (w.heap.size ≤ s_.2) ∧ (w.heap.size ≤ s_.2) ∧ (gb405 ≠ s_.2) ∧ (s_.2 ≠ gb405) ∧ (Below w.heap.size w w')) ?_ ?_
   rotate_left
   ·intro hCont
    refine two_ (i := 5) (j := 9) (Ni := some 66) (Nj := some 10) #[true, true, true, true, true, true, false, false, false, false, false, false] #[true, true, true, true, true, false, false, false, false, true, false, false] rfl rfl rfl rfl (two_of HT_.out (by as_aux_lemma => kernel_rfl)) (by decide) (by decide) (fun K hK => ?_) (fun K hK => ?_)
    ·skip
     refine goes_ Try.func20 (by as_aux_lemma => kernel_rfl) rfl #[.agg #[.int .i64 x406000_2, .slice Ao22 x406001_2.length co22], .agg #[.int .i64 ((rd_T40 l1 x9_2).f0), .string ((rd_T40 l1 x9_2).f1), .int .i64 ((rd_T40 l1 x9_2).f2)]] (by rfl) rfl rfl (by (try simp only [List.map_toArray, List.map_cons, List.map_nil]); first | done | rfl | (simp only [List.length_drop, List.length_take]; rfl)) ?_
     with_reducible refine (shelfmarklaw12_act.calls k2 x406000_2 (fun k_ => k_ ≠ gb405) _ _ x406001_2 ((rd_T40 l1 x9_2).f0) ((rd_T40 l1 x9_2).f1) ((rd_T40 l1 x9_2).f2) t408 t409 t412 _ ?side1 A19.out).mono ?_
     (case side1 => exact HO_406001.out)
     rintro e w24 ⟨v410, rfl, ho0, hb⟩
     refine ⟨_, rfl, ?_⟩
     have n0_ := Aside0.mk (Kd.V_below (vL HO_406001.out) hb)
     have n1_ := Aside0.mk (Kd.V_lower (Kd.V_mono (ok' := fun k_ => k_ ≠ gb405) ho0 (fun k_ hk_ => Or.elim hk_ (fun hs_ => hs_) (fun hn_ => (Kd.freshB (g := gb405) (o := .cells #[.int .i64 x406000_2, .slice Ao22 x406001_2.length co22] 24 (0, 0)) (bL BK405.out) k_ hn_)))) (below_size (hL HB.out)))
     have n2_ := Aside0.mk (blk_below BK405.out hb)
     have n3_ := Aside0.mk (below_step (hL HB.out) hb)
     clear HO_406001
     clear BK405
     clear HB
     have HO_406001 := n0_
     have HO411 := n1_
     have BK405 := n2_
     have HB := n3_
     clear n0_ n1_ n2_ n3_
     (try clear hb)
     (try clear hb2)
     (try clear hk)
     (try clear hi)
     (try clear ho0)
     refine hK.out _ _ ⟨(blk_cell BK405.out 0).trans rfl, (blk_cell BK405.out 1).trans rfl, ((HB.out.cell (World.block_lt_of_cell? w _ hw407_0)).trans hw407_0), ((HB.out.cell (World.block_lt_of_cell? w _ hw407_1)).trans hw407_1), ((HB.out.cell (World.block_lt_of_cell? w _ hw407_2)).trans hw407_2)⟩ (fun hHeld => ?_)
     clear hK K
     refine norm_ (a' := ?_) ?_ ?_
     rotate_left
     ·show Act.put _ (some 66) _ = _
      simp only [Act.put, sT, sZ, sS, i64_w, i32_w]
      rfl
     refine pure_ (i := 6) (N := some 60) (v := ?_) (a' := ?_) #[true, true, true, true, true, true, true, false, false, false, false, false] rfl rfl (any_of HT_.out (by as_aux_lemma => kernel_rfl)) (fun _ _ _ h => h) (Or.inl ⟨by rfl, ?_⟩) ?_ ?_
     rotate_left
     ·intro w'
      go_simp
      with_reducible rfl
     rotate_left
     ·simp only [Act.put, sT, sZ, sS, i64_w, i32_w]
      rfl
     refine pure_ (i := 7) (N := some 67) (v := ?_) (a' := ?_) #[true, true, true, true, true, true, true, true, false, false, false, false] rfl rfl (any_of HT_.out (by as_aux_lemma => kernel_rfl)) (fun _ _ _ h => h) (Or.inl ⟨by rfl, ?_⟩) ?_ ?_
     rotate_left
     ·intro w'
      go_simp
      with_reducible rfl
     rotate_left
     ·simp only [Act.put, sT, sZ, sS, i64_w, i32_w]
      rfl
     refine pure_ (i := 8) (N := some 68) (v := ?_) (a' := ?_) #[true, true, true, true, true, true, true, true, true, false, false, false] rfl rfl (any_of HT_.out (by as_aux_lemma => kernel_rfl)) (fun _ _ _ h => h) (Or.inl ⟨by rfl, ?_⟩) ?_ ?_
     rotate_left
     ·intro w'
      go_simp
      with_reducible rfl
     rotate_left
     ·simp only [Act.put, sT, sZ, sS, i64_w, i32_w]
      rfl
     refine one_ (i := 9) (N := some 10) #[true, true, true, true, true, true, true, true, true, true, false, false] rfl rfl (one_of HT_.out (by as_aux_lemma => kernel_rfl)) (by decide) (fun K hK => ?_)
     refine box_step ?hg (N := 10) ?hd (cs := #[.int .i64 0, .slice none 0 0]) (t := 24) ?hr ?_; (case hd => rfl); (case hg => rfl); (case hr => first | (go_simp; done) | (go_simp; rfl))
     intro gb413 hg w25 hbox hb
     have n0_ := Aside0.mk (Kd.V_below (Kd.V_elderB (vL HO_406001.out) gb413 (Nat.le_of_eq hg.symm)) hb)
     have n1_ := Aside0.mk (Kd.V_below (Kd.V_elderB (vL HO411.out) gb413 (Nat.le_of_eq hg.symm)) hb)
     have n2_ := Aside0.mk (blk_below BK405.out hb)
     have n3_ := Aside0.mk (below_step (hL HB.out) hb)
     have n4_ := Aside0.mk (hbox)
     have n5_ := Above.mk ((by rw [hg]; exact (below_size (hL HB.out)) : w.heap.size ≤ gb413))
     have n6_ := Above.mk ((by rw [hg]; exact (below_size (hL HB.out)) : w.heap.size ≤ gb413))
     have n7_ := Aside0.mk ((by rw [hg]; exact Nat.ne_of_lt (blk_lt (g := gb405) (o := .cells #[.int .i64 x406000_2, .slice Ao22 x406001_2.length co22] 24 (0, 0)) (bL BK405.out)) : gb405 ≠ gb413))
     have n8_ := Aside0.mk ((by rw [hg]; exact Nat.ne_of_gt (blk_lt (g := gb405) (o := .cells #[.int .i64 x406000_2, .slice Ao22 x406001_2.length co22] 24 (0, 0)) (bL BK405.out)) : gb413 ≠ gb405))
     clear HO_406001
     clear HO411
     clear BK405
     clear HB
     have HO_406001 := n0_
     have HO411 := n1_
     have BK405 := n2_
     have HB := n3_
     have BK413 := n4_
     have GW413 := n5_
     have GE413 := n6_
     have NB405_413 := n7_
     have NB413_405 := n8_
     clear n0_ n1_ n2_ n3_ n4_ n5_ n6_ n7_ n8_
     clear hb hbox hg
     refine hK.out _ _ ⟨(blk_cell BK405.out 0).trans rfl, (blk_cell BK405.out 1).trans rfl, ((HB.out.cell (World.block_lt_of_cell? w _ hw407_0)).trans hw407_0), ((HB.out.cell (World.block_lt_of_cell? w _ hw407_1)).trans hw407_1), ((HB.out.cell (World.block_lt_of_cell? w _ hw407_2)).trans hw407_2)⟩ (fun hHeld => ?_)
     clear hK K
     refine norm_ (a' := ?_) ?_ ?_
     rotate_left
     ·show Act.put _ (some 10) _ = _
      simp only [Act.put, sT, sZ, sS, i64_w, i32_w]
      rfl
     exact norm_ (by simp only [putAll, Act.put, sT, sZ, sS]) (hCont (v410, gb413) _ ⟨hHeld, (vL HO411.out), (vL HO_406001.out), (bL BK405.out), (bL BK413.out), GW413.out, GE413.out, NB405_413.out, NB413_405.out, (hL HB.out)⟩)
    skip
    refine box_step ?hg (N := 10) ?hd (cs := #[.int .i64 0, .slice none 0 0]) (t := 24) ?hr ?_; (case hd => rfl); (case hg => rfl); (case hr => first | (go_simp; done) | (go_simp; rfl))
    intro gb413 hg w24 hbox hb
    have n0_ := Aside0.mk (Kd.V_below (Kd.V_elderB (vL HO_406001.out) gb413 (Nat.le_of_eq hg.symm)) hb)
    have n1_ := Aside0.mk (blk_below BK405.out hb)
    have n2_ := Aside0.mk (below_step (hL HB.out) hb)
    have n3_ := Aside0.mk (hbox)
    have n4_ := Above.mk ((by rw [hg]; exact (below_size (hL HB.out)) : w.heap.size ≤ gb413))
    have n5_ := Above.mk ((by rw [hg]; exact (below_size (hL HB.out)) : w.heap.size ≤ gb413))
    have n6_ := Aside0.mk ((by rw [hg]; exact Nat.ne_of_lt (blk_lt (g := gb405) (o := .cells #[.int .i64 x406000_2, .slice Ao22 x406001_2.length co22] 24 (0, 0)) (bL BK405.out)) : gb405 ≠ gb413))
    have n7_ := Aside0.mk ((by rw [hg]; exact Nat.ne_of_gt (blk_lt (g := gb405) (o := .cells #[.int .i64 x406000_2, .slice Ao22 x406001_2.length co22] 24 (0, 0)) (bL BK405.out)) : gb413 ≠ gb405))
    clear HO_406001
    clear BK405
    clear HB
    have HO_406001 := n0_
    have BK405 := n1_
    have HB := n2_
    have BK413 := n3_
    have GW413 := n4_
    have GE413 := n5_
    have NB405_413 := n6_
    have NB413_405 := n7_
    clear n0_ n1_ n2_ n3_ n4_ n5_ n6_ n7_
    clear hb hbox hg
    refine hK.out _ _ ⟨(blk_cell BK405.out 0).trans rfl, (blk_cell BK405.out 1).trans rfl, ((HB.out.cell (World.block_lt_of_cell? w _ hw407_0)).trans hw407_0), ((HB.out.cell (World.block_lt_of_cell? w _ hw407_1)).trans hw407_1), ((HB.out.cell (World.block_lt_of_cell? w _ hw407_2)).trans hw407_2)⟩ (fun hHeld => ?_)
    clear hK K
    refine norm_ (a' := ?_) ?_ ?_
    rotate_left
    ·show Act.put _ (some 10) _ = _
     simp only [Act.put, sT, sZ, sS, i64_w, i32_w]
     rfl
    refine one_ (i := 5) (N := some 66) #[true, true, true, true, true, true, false, false, false, true, false, false] rfl rfl (one_of HT_.out (by as_aux_lemma => kernel_rfl)) (by decide) (fun K hK => ?_)
    refine goes_ Try.func20 (by as_aux_lemma => kernel_rfl) rfl #[.agg #[.int .i64 x406000_2, .slice Ao22 x406001_2.length co22], .agg #[.int .i64 ((rd_T40 l1 x9_2).f0), .string ((rd_T40 l1 x9_2).f1), .int .i64 ((rd_T40 l1 x9_2).f2)]] (by rfl) rfl rfl (by (try simp only [List.map_toArray, List.map_cons, List.map_nil]); first | done | rfl | (simp only [List.length_drop, List.length_take]; rfl)) ?_
    with_reducible refine (shelfmarklaw12_act.calls k2 x406000_2 (fun k_ => (k_ ≠ gb405 ∧ k_ ≠ gb413)) _ _ x406001_2 ((rd_T40 l1 x9_2).f0) ((rd_T40 l1 x9_2).f1) ((rd_T40 l1 x9_2).f2) t408 t409 t412 _ ?side1 A19.out).mono ?_
    (case side1 => exact HO_406001.out)
    rintro e w25 ⟨v410, rfl, ho0, hb⟩
    refine ⟨_, rfl, ?_⟩
    have n0_ := Aside0.mk (Kd.V_below (vL HO_406001.out) hb)
    have n1_ := Aside0.mk (Kd.V_lower (Kd.V_mono (ok' := fun k_ => k_ ≠ gb405 ∧ k_ ≠ gb413) ho0 (fun k_ hk_ => ⟨Or.elim hk_ (fun hs_ => hs_.1) (fun hn_ => (Kd.freshB (g := gb405) (o := .cells #[.int .i64 x406000_2, .slice Ao22 x406001_2.length co22] 24 (0, 0)) (bL BK405.out) k_ hn_)), Or.elim hk_ (fun hs_ => hs_.2) (fun hn_ => (Kd.freshB (g := gb413) (o := .cells #[.int .i64 0, .slice none 0 0] 24 (0, 0)) (bL BK413.out) k_ hn_))⟩)) (below_size (hL HB.out)))
    have n2_ := Aside0.mk (blk_below BK405.out hb)
    have n3_ := Aside0.mk (blk_below BK413.out hb)
    have n4_ := Aside0.mk (below_step (hL HB.out) hb)
    clear HO_406001
    clear BK405
    clear BK413
    clear HB
    have HO_406001 := n0_
    have HO411 := n1_
    have BK405 := n2_
    have BK413 := n3_
    have HB := n4_
    clear n0_ n1_ n2_ n3_ n4_
    (try clear hb)
    (try clear hb2)
    (try clear hk)
    (try clear hi)
    (try clear ho0)
    refine hK.out _ _ ⟨(blk_cell BK405.out 0).trans rfl, (blk_cell BK405.out 1).trans rfl, ((HB.out.cell (World.block_lt_of_cell? w _ hw407_0)).trans hw407_0), ((HB.out.cell (World.block_lt_of_cell? w _ hw407_1)).trans hw407_1), ((HB.out.cell (World.block_lt_of_cell? w _ hw407_2)).trans hw407_2)⟩ (fun hHeld => ?_)
    clear hK K
    refine norm_ (a' := ?_) ?_ ?_
    rotate_left
    ·show Act.put _ (some 66) _ = _
     simp only [Act.put, sT, sZ, sS, i64_w, i32_w]
     rfl
    refine pure_ (i := 6) (N := some 60) (v := ?_) (a' := ?_) #[true, true, true, true, true, true, true, false, false, true, false, false] rfl rfl (any_of HT_.out (by as_aux_lemma => kernel_rfl)) (fun _ _ _ h => h) (Or.inl ⟨by rfl, ?_⟩) ?_ ?_
    rotate_left
    ·intro w'
     go_simp
     with_reducible rfl
    rotate_left
    ·simp only [Act.put, sT, sZ, sS, i64_w, i32_w]
     rfl
    refine pure_ (i := 7) (N := some 67) (v := ?_) (a' := ?_) #[true, true, true, true, true, true, true, true, false, true, false, false] rfl rfl (any_of HT_.out (by as_aux_lemma => kernel_rfl)) (fun _ _ _ h => h) (Or.inl ⟨by rfl, ?_⟩) ?_ ?_
    rotate_left
    ·intro w'
     go_simp
     with_reducible rfl
    rotate_left
    ·simp only [Act.put, sT, sZ, sS, i64_w, i32_w]
     rfl
    refine pure_ (i := 8) (N := some 68) (v := ?_) (a' := ?_) #[true, true, true, true, true, true, true, true, true, true, false, false] rfl rfl (any_of HT_.out (by as_aux_lemma => kernel_rfl)) (fun _ _ _ h => h) (Or.inl ⟨by rfl, ?_⟩) ?_ ?_
    rotate_left
    ·intro w'
     go_simp
     with_reducible rfl
    rotate_left
    ·simp only [Act.put, sT, sZ, sS, i64_w, i32_w]
     rfl
    exact norm_ (by simp only [putAll, Act.put, sT, sZ, sS]) (hCont (v410, gb413) _ ⟨hHeld, (vL HO411.out), (vL HO_406001.out), (bL BK405.out), (bL BK413.out), GW413.out, GE413.out, NB405_413.out, NB413_405.out, (hL HB.out)⟩)
   rintro ⟨v410, gb413⟩ w26 ⟨hS_, h0_, h1_, h2_, h3_, h4_, h5_, h6_, h7_, h8_⟩
   have n0_ : Aside0 (Kd.V k46 46 w26 w.heap.size (fun k_ => k_ ≠ gb405 ∧ k_ ≠ gb413) v410 t409) := ⟨h0_⟩
   have n1_ : Aside0 (Kd.V k46 46 w26 w.heap.size (fun k_ => k_ ≠ gb405 ∧ k_ ≠ gb413) (.slice Ao22 x406001_2.length co22) x406001_2) := ⟨h1_⟩
   have n2_ : Aside0 (w26.heap[gb405]? = some (.cells #[.int .i64 x406000_2, .slice Ao22 x406001_2.length co22] 24 (0, 0))) := ⟨h2_⟩
   have n3_ : Aside0 (w26.heap[gb413]? = some (.cells #[.int .i64 0, .slice none 0 0] 24 (0, 0))) := ⟨h3_⟩
   have n4_ : Above w gb413 := ⟨h4_⟩
   have n5_ : Above w gb413 := ⟨h5_⟩
   have n6_ : Aside0 (gb405 ≠ gb413) := ⟨h6_⟩
   have n7_ : Aside0 (gb413 ≠ gb405) := ⟨h7_⟩
   have n8_ : Aside0 (Below w.heap.size w w26) := ⟨h8_⟩
   clear HO_406001
   clear BK405
   clear HB
   clear h0_ h1_ h2_ h3_ h4_ h5_ h6_ h7_ h8_
   have HO411 := n0_
   have HO_406001 := n1_
   have BK405 := n2_
   have BK413 := n3_
   have GW413 := n4_
   have GE413 := n5_
   have NB405_413 := n6_
   have NB413_405 := n7_
   have HB := n8_
   clear n0_ n1_ n2_ n3_ n4_ n5_ n6_ n7_ n8_
   have hHeld : w26.cell? ⟨gb405, 0, none⟩ = some (.int .i64 x406000_2) ∧ w26.cell? ⟨gb405, 1, none⟩ = some (.slice Ao22 x406001_2.length co22) ∧ w26.cell? (ad406.add ((x9_2).toNat * 3)) = some (.int .i64 ((rd_T40 l1 x9_2).f0)) ∧ w26.cell? ⟨(ad406.add ((x9_2).toNat * 3)).block, (ad406.add ((x9_2).toNat * 3)).off + 1, none⟩ = some (.string ((rd_T40 l1 x9_2).f1)) ∧ w26.cell? ⟨(ad406.add ((x9_2).toNat * 3)).block, (ad406.add ((x9_2).toNat * 3)).off + 2, none⟩ = some (.int .i64 ((rd_T40 l1 x9_2).f2)) := hS_
   obtain ⟨Ao28, co28, eo28⟩ := Kd.V_slice HO411.out
   (first | subst eo28 | (injection eo28 with f1_ f2_ f3_; have f4_ := f1_.symm; have f5_ := f3_.symm; clear f1_ f2_ f3_; subst f4_; subst f5_))
   refine norm_ (a' := ?_) ?_ ?_
   rotate_left
   ·simp only [putAll, Act.put, sT, sZ, sS]
    rfl
   refine one_ (i := 10) (N := none) #[true, true, true, true, true, true, true, true, true, true, true, false] rfl rfl (one_of HT_.out (by as_aux_lemma => kernel_rfl)) (by decide) (fun K hK => ?_)
   have hs27 : w26.cell? ⟨gb413, 0, none⟩ = some (.int .i64 0) := (blk_cell BK413.out 0).trans rfl
   have hfs27 := blk_frozen BK413.out 0
   have hns27_0 := NB405_413.out
   have hms27_0 := NB413_405.out
   have hs29 : w26.cell? ⟨gb413, 1, none⟩ = some (.slice none 0 0) := (blk_cell BK413.out 1).trans rfl
   have hfs29 := blk_frozen BK413.out 1
   have hns29_0 := NB405_413.out
   have hms29_0 := NB413_405.out
   refine skip_ (w1 := ?_) (by rfl) rfl ?_ ?_
   rotate_left
   ·go_simp
    rfl
   refine hK.out _ _ ⟨((cell_far (p := ⟨gb413, _, none⟩) NB405_413.out _).trans (((cell_far (p := ⟨gb413, _, none⟩) NB405_413.out _).trans (hHeld.1)))), ((cell_far (p := ⟨gb413, _, none⟩) NB405_413.out _).trans (((cell_far (p := ⟨gb413, _, none⟩) NB405_413.out _).trans (hHeld.2.1)))), ((cell_far (p := ⟨gb413, _, none⟩) (by first | exact Nat.ne_of_lt (Nat.lt_of_lt_of_le (by have := World.block_lt_of_cell? _ _ hw407_0; first | rwa [add_block] at this | exact this) GW413.out) | (rw [add_block]; exact Nat.ne_of_lt (Nat.lt_of_lt_of_le (by have := World.block_lt_of_cell? _ _ hw407_0; first | rwa [add_block] at this | exact this) GW413.out)) | (show (Addr.add _ _).block ≠ _; rw [add_block]; exact Nat.ne_of_lt (Nat.lt_of_lt_of_le (by have := World.block_lt_of_cell? _ _ hw407_0; first | rwa [add_block] at this | exact this) GW413.out)) | (dsimp only; exact Nat.ne_of_lt (Nat.lt_of_lt_of_le (by have := World.block_lt_of_cell? _ _ hw407_0; first | rwa [add_block] at this | exact this) GW413.out))) _).trans (((cell_far (p := ⟨gb413, _, none⟩) (by first | exact Nat.ne_of_lt (Nat.lt_of_lt_of_le (by have := World.block_lt_of_cell? _ _ hw407_0; first | rwa [add_block] at this | exact this) GW413.out) | (rw [add_block]; exact Nat.ne_of_lt (Nat.lt_of_lt_of_le (by have := World.block_lt_of_cell? _ _ hw407_0; first | rwa [add_block] at this | exact this) GW413.out)) | (show (Addr.add _ _).block ≠ _; rw [add_block]; exact Nat.ne_of_lt (Nat.lt_of_lt_of_le (by have := World.block_lt_of_cell? _ _ hw407_0; first | rwa [add_block] at this | exact this) GW413.out)) | (dsimp only; exact Nat.ne_of_lt (Nat.lt_of_lt_of_le (by have := World.block_lt_of_cell? _ _ hw407_0; first | rwa [add_block] at this | exact this) GW413.out))) _).trans (hHeld.2.2.1)))), ((cell_far (p := ⟨gb413, _, none⟩) (by first | exact Nat.ne_of_lt (Nat.lt_of_lt_of_le (by have := World.block_lt_of_cell? _ _ hw407_1; first | rwa [add_block] at this | exact this) GW413.out) | (rw [add_block]; exact Nat.ne_of_lt (Nat.lt_of_lt_of_le (by have := World.block_lt_of_cell? _ _ hw407_1; first | rwa [add_block] at this | exact this) GW413.out)) | (show (Addr.add _ _).block ≠ _; rw [add_block]; exact Nat.ne_of_lt (Nat.lt_of_lt_of_le (by have := World.block_lt_of_cell? _ _ hw407_1; first | rwa [add_block] at this | exact this) GW413.out)) | (dsimp only; exact Nat.ne_of_lt (Nat.lt_of_lt_of_le (by have := World.block_lt_of_cell? _ _ hw407_1; first | rwa [add_block] at this | exact this) GW413.out))) _).trans (((cell_far (p := ⟨gb413, _, none⟩) (by first | exact Nat.ne_of_lt (Nat.lt_of_lt_of_le (by have := World.block_lt_of_cell? _ _ hw407_1; first | rwa [add_block] at this | exact this) GW413.out) | (rw [add_block]; exact Nat.ne_of_lt (Nat.lt_of_lt_of_le (by have := World.block_lt_of_cell? _ _ hw407_1; first | rwa [add_block] at this | exact this) GW413.out)) | (show (Addr.add _ _).block ≠ _; rw [add_block]; exact Nat.ne_of_lt (Nat.lt_of_lt_of_le (by have := World.block_lt_of_cell? _ _ hw407_1; first | rwa [add_block] at this | exact this) GW413.out)) | (dsimp only; exact Nat.ne_of_lt (Nat.lt_of_lt_of_le (by have := World.block_lt_of_cell? _ _ hw407_1; first | rwa [add_block] at this | exact this) GW413.out))) _).trans (hHeld.2.2.2.1)))), ((cell_far (p := ⟨gb413, _, none⟩) (by first | exact Nat.ne_of_lt (Nat.lt_of_lt_of_le (by have := World.block_lt_of_cell? _ _ hw407_2; first | rwa [add_block] at this | exact this) GW413.out) | (rw [add_block]; exact Nat.ne_of_lt (Nat.lt_of_lt_of_le (by have := World.block_lt_of_cell? _ _ hw407_2; first | rwa [add_block] at this | exact this) GW413.out)) | (show (Addr.add _ _).block ≠ _; rw [add_block]; exact Nat.ne_of_lt (Nat.lt_of_lt_of_le (by have := World.block_lt_of_cell? _ _ hw407_2; first | rwa [add_block] at this | exact this) GW413.out)) | (dsimp only; exact Nat.ne_of_lt (Nat.lt_of_lt_of_le (by have := World.block_lt_of_cell? _ _ hw407_2; first | rwa [add_block] at this | exact this) GW413.out))) _).trans (((cell_far (p := ⟨gb413, _, none⟩) (by first | exact Nat.ne_of_lt (Nat.lt_of_lt_of_le (by have := World.block_lt_of_cell? _ _ hw407_2; first | rwa [add_block] at this | exact this) GW413.out) | (rw [add_block]; exact Nat.ne_of_lt (Nat.lt_of_lt_of_le (by have := World.block_lt_of_cell? _ _ hw407_2; first | rwa [add_block] at this | exact this) GW413.out)) | (show (Addr.add _ _).block ≠ _; rw [add_block]; exact Nat.ne_of_lt (Nat.lt_of_lt_of_le (by have := World.block_lt_of_cell? _ _ hw407_2; first | rwa [add_block] at this | exact this) GW413.out)) | (dsimp only; exact Nat.ne_of_lt (Nat.lt_of_lt_of_le (by have := World.block_lt_of_cell? _ _ hw407_2; first | rwa [add_block] at this | exact this) GW413.out))) _).trans (hHeld.2.2.2.2))))⟩ (fun hHeld => ?_)
   clear hK K
   refine pure_ (i := 11) (N := some 11) (v := ?_) (a' := ?_) #[true, true, true, true, true, true, true, true, true, true, true, true] rfl rfl (any_of HT_.out (by as_aux_lemma => kernel_rfl)) (fun _ _ _ h => h) (Or.inl ⟨by rfl, ?_⟩) ?_ ?_
   rotate_left
   ·intro w'
    go_simp
    with_reducible rfl
   rotate_left
   ·simp only [Act.put, sT, sZ, sS, i64_w, i32_w]
    rfl
   refine done_ (done_of HT_.out (by as_aux_lemma => kernel_rfl)) ?_
   go_upto_region 17 with (fail)
   go_cut [101] (fun v101 wc => ∃ (kq : Nat) (x101_20 : Bool), v101 = .bool x101_20 ∧ Aside0 (shelfmarklaw12_AtlasTiles.j2 kq l1 l2 x9_2 x101_20 x406000_2 x406001_2 t408 t409 = some r) ∧ Aside0 (kq ≤ k2) ∧ Aside0 (Kd.V k46 46 wc w.heap.size (fun k_ => k_ ≠ gb405 ∧ k_ ≠ gb413) (.slice Ao22 x406001_2.length co22) x406001_2) ∧ Aside0 (Kd.V k46 46 wc w.heap.size (fun k_ => k_ ≠ gb405 ∧ k_ ≠ gb413) (.slice Ao28 t409.length co28) t409) ∧ Aside0 (wc.heap[gb405]? = some (.cells #[.int .i64 x406000_2, (.slice Ao22 x406001_2.length co22)] 24 (0, 0))) ∧ Aside0 (wc.heap[gb413]? = some (.cells #[.int .i64 t408, (.slice Ao28 t409.length co28)] 24 (0, 0))) ∧ Aside0 (Below w.heap.size w wc))
   case first =>
    have H := HC21.out
    clear HC21
    by_cases c30 : ((rd_T40 l1 x9_2).f0) ≥ 1
    rotate_left
    ·rw [if_neg c30] at H
     have c30b0 : decide (1 ≤ ((rd_T40 l1 x9_2).f0)) = false := decide_eq_false c30
     clear c30
     (first | rw [c30b0] | (simp only [i64_w, i32_w]; rw [c30b0]) | skip)
     have H' := Aside0.mk H
     clear H
     have p414 : 0 ≤ (x9_2 : Int) := of_decide_eq_true (by first | (with_reducible assumption) | assumption)
     have q414 : x9_2 < (l1.length : Int) := of_decide_eq_true (by first | (with_reducible assumption) | assumption)
     obtain ⟨ad414, e414, hx414_0, hx414_1, hx414_2⟩ := at_T40 HR1.out x9_2 p414 q414
     obtain rfl : ad406 = ad414 := (by injection e414)
     have hn414_0 : ad406.block ≠ gb413 := Nat.ne_of_lt (Nat.lt_of_lt_of_le (by have := World.block_lt_of_cell? _ _ hx414_0; first | rwa [add_block] at this | exact this) GW413.out)
     have hn414_1 : ad406.block ≠ gb413 := Nat.ne_of_lt (Nat.lt_of_lt_of_le (by have := World.block_lt_of_cell? _ _ hx414_0; first | rwa [add_block] at this | exact this) GW413.out)
     replace hx414_0 := (HB.out.cell (World.block_lt_of_cell? w _ hx414_0)).trans hx414_0
     replace hx414_1 := (HB.out.cell (World.block_lt_of_cell? w _ hx414_1)).trans hx414_1
     replace hx414_2 := (HB.out.cell (World.block_lt_of_cell? w _ hx414_2)).trans hx414_2
     replace hx414_0 := (cell_far (p := ⟨gb413, 0, none⟩) (by first | (rw [add_block]; exact hn414_0) | (show (Addr.add _ _).block ≠ _; rw [add_block]; exact hn414_0) | exact hn414_0) (.int .i64 t408)).trans hx414_0
     replace hx414_1 := (cell_far (p := ⟨gb413, 0, none⟩) (by first | (rw [add_block]; exact hn414_0) | (show (Addr.add _ _).block ≠ _; rw [add_block]; exact hn414_0) | exact hn414_0) (.int .i64 t408)).trans hx414_1
     replace hx414_2 := (cell_far (p := ⟨gb413, 0, none⟩) (by first | (rw [add_block]; exact hn414_0) | (show (Addr.add _ _).block ≠ _; rw [add_block]; exact hn414_0) | exact hn414_0) (.int .i64 t408)).trans hx414_2
     replace hx414_0 := (cell_far (p := ⟨gb413, 1, none⟩) (by first | (rw [add_block]; exact hn414_1) | (show (Addr.add _ _).block ≠ _; rw [add_block]; exact hn414_1) | exact hn414_1) (.slice Ao28 t409.length co28)).trans hx414_0
     replace hx414_1 := (cell_far (p := ⟨gb413, 1, none⟩) (by first | (rw [add_block]; exact hn414_1) | (show (Addr.add _ _).block ≠ _; rw [add_block]; exact hn414_1) | exact hn414_1) (.slice Ao28 t409.length co28)).trans hx414_1
     replace hx414_2 := (cell_far (p := ⟨gb413, 1, none⟩) (by first | (rw [add_block]; exact hn414_1) | (show (Addr.add _ _).block ≠ _; rw [add_block]; exact hn414_1) | exact hn414_1) (.slice Ao28 t409.length co28)).trans hx414_2
     clear hn414_0
     clear hn414_1
     replace p414 := eq_true p414
     replace q414 := eq_true q414
     go_wp2
     go_meet
     case rel => exact ⟨_, (false), (by first | rfl | (simp; done) | (simp [*]; done) | (simp [ne_nil_bytes]; done) | (simp [eq_nil_bytes]; done)), H', ⟨by have := HJ5.out; have := HK2.out; first | omega | exact Nat.le_refl _⟩, ⟨by (with_reducible repeat (first | apply Kd.V_alloc | apply Kd.V_drewN | apply Kd.V_drew)); exact Kd.V_mono (Kd.V_far (p := ⟨gb413, 1, none⟩) (Kd.V_far (p := ⟨gb413, 0, none⟩) (Kd.V_mono HO_406001.out (fun k_ hk => (⟨hk, hk.2⟩ : _ ∧ k_ ≠ gb413))) (fun _ hk => hk.2) (.int .i64 t408)) (fun _ hk => hk.2) (.slice Ao28 t409.length co28)) (fun _ hk => ⟨hk.1.1, hk.1.2⟩)⟩, ⟨by (with_reducible repeat (first | apply Kd.V_alloc | apply Kd.V_drewN | apply Kd.V_drew)); exact Kd.V_mono (Kd.V_far (p := ⟨gb413, 1, none⟩) (Kd.V_far (p := ⟨gb413, 0, none⟩) (Kd.V_mono HO411.out (fun k_ hk => (⟨hk, hk.2⟩ : _ ∧ k_ ≠ gb413))) (fun _ hk => hk.2) (.int .i64 t408)) (fun _ hk => hk.2) (.slice Ao28 t409.length co28)) (fun _ hk => ⟨hk.1.1, hk.1.2⟩)⟩, ⟨by (with_reducible repeat (first | refine blk_drewN ?_ _ | refine blk_drew ?_ | refine blk_alloc ?_ _)); refine blk_far ?_ NB405_413.out _; (with_reducible repeat (first | refine blk_drewN ?_ _ | refine blk_drew ?_ | refine blk_alloc ?_ _)); refine blk_far ?_ NB405_413.out _; exact bL BK405.out⟩, ⟨by (with_reducible repeat (first | refine blk_drewN ?_ _ | refine blk_drew ?_ | refine blk_alloc ?_ _)); refine blk_put (cs := #[.int .i64 t408, .slice none 0 0]) ?_ 1 _ rfl; (with_reducible repeat (first | refine blk_drewN ?_ _ | refine blk_drew ?_ | refine blk_alloc ?_ _)); refine blk_put (cs := #[.int .i64 0, .slice none 0 0]) ?_ 0 _ rfl; exact bL BK413.out⟩, ⟨hL HB.out⟩⟩
    rw [if_pos c30] at H
    have c30b0 : decide (1 ≤ ((rd_T40 l1 x9_2).f0)) = true := decide_eq_true c30
    clear c30
    (first | rw [c30b0] | (simp only [i64_w, i32_w]; rw [c30b0]) | skip)
    by_cases c31 : ((rd_T40 l1 x9_2).f0) ≤ 3
    rotate_left
    ·rw [if_neg c31] at H
     have c31b0 : decide (((rd_T40 l1 x9_2).f0) ≤ 3) = false := decide_eq_false c31
     clear c31
     have H' := Aside0.mk H
     clear H
     have p414 : 0 ≤ (x9_2 : Int) := of_decide_eq_true (by first | (with_reducible assumption) | assumption)
     have q414 : x9_2 < (l1.length : Int) := of_decide_eq_true (by first | (with_reducible assumption) | assumption)
     obtain ⟨ad414, e414, hx414_0, hx414_1, hx414_2⟩ := at_T40 HR1.out x9_2 p414 q414
     obtain rfl : ad406 = ad414 := (by injection e414)
     have hn414_0 : ad406.block ≠ gb413 := Nat.ne_of_lt (Nat.lt_of_lt_of_le (by have := World.block_lt_of_cell? _ _ hx414_0; first | rwa [add_block] at this | exact this) GW413.out)
     have hn414_1 : ad406.block ≠ gb413 := Nat.ne_of_lt (Nat.lt_of_lt_of_le (by have := World.block_lt_of_cell? _ _ hx414_0; first | rwa [add_block] at this | exact this) GW413.out)
     replace hx414_0 := (HB.out.cell (World.block_lt_of_cell? w _ hx414_0)).trans hx414_0
     replace hx414_1 := (HB.out.cell (World.block_lt_of_cell? w _ hx414_1)).trans hx414_1
     replace hx414_2 := (HB.out.cell (World.block_lt_of_cell? w _ hx414_2)).trans hx414_2
     replace hx414_0 := (cell_far (p := ⟨gb413, 0, none⟩) (by first | (rw [add_block]; exact hn414_0) | (show (Addr.add _ _).block ≠ _; rw [add_block]; exact hn414_0) | exact hn414_0) (.int .i64 t408)).trans hx414_0
     replace hx414_1 := (cell_far (p := ⟨gb413, 0, none⟩) (by first | (rw [add_block]; exact hn414_0) | (show (Addr.add _ _).block ≠ _; rw [add_block]; exact hn414_0) | exact hn414_0) (.int .i64 t408)).trans hx414_1
     replace hx414_2 := (cell_far (p := ⟨gb413, 0, none⟩) (by first | (rw [add_block]; exact hn414_0) | (show (Addr.add _ _).block ≠ _; rw [add_block]; exact hn414_0) | exact hn414_0) (.int .i64 t408)).trans hx414_2
     replace hx414_0 := (cell_far (p := ⟨gb413, 1, none⟩) (by first | (rw [add_block]; exact hn414_1) | (show (Addr.add _ _).block ≠ _; rw [add_block]; exact hn414_1) | exact hn414_1) (.slice Ao28 t409.length co28)).trans hx414_0
     replace hx414_1 := (cell_far (p := ⟨gb413, 1, none⟩) (by first | (rw [add_block]; exact hn414_1) | (show (Addr.add _ _).block ≠ _; rw [add_block]; exact hn414_1) | exact hn414_1) (.slice Ao28 t409.length co28)).trans hx414_1
     replace hx414_2 := (cell_far (p := ⟨gb413, 1, none⟩) (by first | (rw [add_block]; exact hn414_1) | (show (Addr.add _ _).block ≠ _; rw [add_block]; exact hn414_1) | exact hn414_1) (.slice Ao28 t409.length co28)).trans hx414_2
     clear hn414_0
     clear hn414_1
     replace p414 := eq_true p414
     replace q414 := eq_true q414
     have p415 : 0 ≤ (x9_2 : Int) := of_decide_eq_true (by first | (with_reducible assumption) | assumption)
     have q415 : x9_2 < (l1.length : Int) := of_decide_eq_true (by first | (with_reducible assumption) | assumption)
     obtain ⟨ad415, e415, hx415_0, hx415_1, hx415_2⟩ := at_T40 HR1.out x9_2 p415 q415
     obtain rfl : ad406 = ad415 := (by injection e415)
     have hn415_0 : ad406.block ≠ gb413 := Nat.ne_of_lt (Nat.lt_of_lt_of_le (by have := World.block_lt_of_cell? _ _ hx415_0; first | rwa [add_block] at this | exact this) GW413.out)
     have hn415_1 : ad406.block ≠ gb413 := Nat.ne_of_lt (Nat.lt_of_lt_of_le (by have := World.block_lt_of_cell? _ _ hx415_0; first | rwa [add_block] at this | exact this) GW413.out)
     replace hx415_0 := (HB.out.cell (World.block_lt_of_cell? w _ hx415_0)).trans hx415_0
     replace hx415_1 := (HB.out.cell (World.block_lt_of_cell? w _ hx415_1)).trans hx415_1
     replace hx415_2 := (HB.out.cell (World.block_lt_of_cell? w _ hx415_2)).trans hx415_2
     replace hx415_0 := (cell_far (p := ⟨gb413, 0, none⟩) (by first | (rw [add_block]; exact hn415_0) | (show (Addr.add _ _).block ≠ _; rw [add_block]; exact hn415_0) | exact hn415_0) (.int .i64 t408)).trans hx415_0
     replace hx415_1 := (cell_far (p := ⟨gb413, 0, none⟩) (by first | (rw [add_block]; exact hn415_0) | (show (Addr.add _ _).block ≠ _; rw [add_block]; exact hn415_0) | exact hn415_0) (.int .i64 t408)).trans hx415_1
     replace hx415_2 := (cell_far (p := ⟨gb413, 0, none⟩) (by first | (rw [add_block]; exact hn415_0) | (show (Addr.add _ _).block ≠ _; rw [add_block]; exact hn415_0) | exact hn415_0) (.int .i64 t408)).trans hx415_2
     replace hx415_0 := (cell_far (p := ⟨gb413, 1, none⟩) (by first | (rw [add_block]; exact hn415_1) | (show (Addr.add _ _).block ≠ _; rw [add_block]; exact hn415_1) | exact hn415_1) (.slice Ao28 t409.length co28)).trans hx415_0
     replace hx415_1 := (cell_far (p := ⟨gb413, 1, none⟩) (by first | (rw [add_block]; exact hn415_1) | (show (Addr.add _ _).block ≠ _; rw [add_block]; exact hn415_1) | exact hn415_1) (.slice Ao28 t409.length co28)).trans hx415_1
     replace hx415_2 := (cell_far (p := ⟨gb413, 1, none⟩) (by first | (rw [add_block]; exact hn415_1) | (show (Addr.add _ _).block ≠ _; rw [add_block]; exact hn415_1) | exact hn415_1) (.slice Ao28 t409.length co28)).trans hx415_2
     clear hn415_0
     clear hn415_1
     replace p415 := eq_true p415
     replace q415 := eq_true q415
     go_wp2
     go_meet
     case rel => exact ⟨_, (false), (by first | rfl | (simp; done) | (simp [*]; done) | (simp [ne_nil_bytes]; done) | (simp [eq_nil_bytes]; done)), H', ⟨by have := HJ5.out; have := HK2.out; first | omega | exact Nat.le_refl _⟩, ⟨by (with_reducible repeat (first | apply Kd.V_alloc | apply Kd.V_drewN | apply Kd.V_drew)); exact Kd.V_mono (Kd.V_far (p := ⟨gb413, 1, none⟩) (Kd.V_far (p := ⟨gb413, 0, none⟩) (Kd.V_mono HO_406001.out (fun k_ hk => (⟨hk, hk.2⟩ : _ ∧ k_ ≠ gb413))) (fun _ hk => hk.2) (.int .i64 t408)) (fun _ hk => hk.2) (.slice Ao28 t409.length co28)) (fun _ hk => ⟨hk.1.1, hk.1.2⟩)⟩, ⟨by (with_reducible repeat (first | apply Kd.V_alloc | apply Kd.V_drewN | apply Kd.V_drew)); exact Kd.V_mono (Kd.V_far (p := ⟨gb413, 1, none⟩) (Kd.V_far (p := ⟨gb413, 0, none⟩) (Kd.V_mono HO411.out (fun k_ hk => (⟨hk, hk.2⟩ : _ ∧ k_ ≠ gb413))) (fun _ hk => hk.2) (.int .i64 t408)) (fun _ hk => hk.2) (.slice Ao28 t409.length co28)) (fun _ hk => ⟨hk.1.1, hk.1.2⟩)⟩, ⟨by (with_reducible repeat (first | refine blk_drewN ?_ _ | refine blk_drew ?_ | refine blk_alloc ?_ _)); refine blk_far ?_ NB405_413.out _; (with_reducible repeat (first | refine blk_drewN ?_ _ | refine blk_drew ?_ | refine blk_alloc ?_ _)); refine blk_far ?_ NB405_413.out _; exact bL BK405.out⟩, ⟨by (with_reducible repeat (first | refine blk_drewN ?_ _ | refine blk_drew ?_ | refine blk_alloc ?_ _)); refine blk_put (cs := #[.int .i64 t408, .slice none 0 0]) ?_ 1 _ rfl; (with_reducible repeat (first | refine blk_drewN ?_ _ | refine blk_drew ?_ | refine blk_alloc ?_ _)); refine blk_put (cs := #[.int .i64 0, .slice none 0 0]) ?_ 0 _ rfl; exact bL BK413.out⟩, ⟨hL HB.out⟩⟩
    rw [if_pos c31] at H
    have c31b0 : decide (((rd_T40 l1 x9_2).f0) ≤ 3) = true := decide_eq_true c31
    clear c31
    have H' := Aside0.mk H
    clear H
    have p414 : 0 ≤ (x9_2 : Int) := of_decide_eq_true (by first | (with_reducible assumption) | assumption)
    have q414 : x9_2 < (l1.length : Int) := of_decide_eq_true (by first | (with_reducible assumption) | assumption)
    obtain ⟨ad414, e414, hx414_0, hx414_1, hx414_2⟩ := at_T40 HR1.out x9_2 p414 q414
    obtain rfl : ad406 = ad414 := (by injection e414)
    have hn414_0 : ad406.block ≠ gb413 := Nat.ne_of_lt (Nat.lt_of_lt_of_le (by have := World.block_lt_of_cell? _ _ hx414_0; first | rwa [add_block] at this | exact this) GW413.out)
    have hn414_1 : ad406.block ≠ gb413 := Nat.ne_of_lt (Nat.lt_of_lt_of_le (by have := World.block_lt_of_cell? _ _ hx414_0; first | rwa [add_block] at this | exact this) GW413.out)
    replace hx414_0 := (HB.out.cell (World.block_lt_of_cell? w _ hx414_0)).trans hx414_0
    replace hx414_1 := (HB.out.cell (World.block_lt_of_cell? w _ hx414_1)).trans hx414_1
    replace hx414_2 := (HB.out.cell (World.block_lt_of_cell? w _ hx414_2)).trans hx414_2
    replace hx414_0 := (cell_far (p := ⟨gb413, 0, none⟩) (by first | (rw [add_block]; exact hn414_0) | (show (Addr.add _ _).block ≠ _; rw [add_block]; exact hn414_0) | exact hn414_0) (.int .i64 t408)).trans hx414_0
    replace hx414_1 := (cell_far (p := ⟨gb413, 0, none⟩) (by first | (rw [add_block]; exact hn414_0) | (show (Addr.add _ _).block ≠ _; rw [add_block]; exact hn414_0) | exact hn414_0) (.int .i64 t408)).trans hx414_1
    replace hx414_2 := (cell_far (p := ⟨gb413, 0, none⟩) (by first | (rw [add_block]; exact hn414_0) | (show (Addr.add _ _).block ≠ _; rw [add_block]; exact hn414_0) | exact hn414_0) (.int .i64 t408)).trans hx414_2
    replace hx414_0 := (cell_far (p := ⟨gb413, 1, none⟩) (by first | (rw [add_block]; exact hn414_1) | (show (Addr.add _ _).block ≠ _; rw [add_block]; exact hn414_1) | exact hn414_1) (.slice Ao28 t409.length co28)).trans hx414_0
    replace hx414_1 := (cell_far (p := ⟨gb413, 1, none⟩) (by first | (rw [add_block]; exact hn414_1) | (show (Addr.add _ _).block ≠ _; rw [add_block]; exact hn414_1) | exact hn414_1) (.slice Ao28 t409.length co28)).trans hx414_1
    replace hx414_2 := (cell_far (p := ⟨gb413, 1, none⟩) (by first | (rw [add_block]; exact hn414_1) | (show (Addr.add _ _).block ≠ _; rw [add_block]; exact hn414_1) | exact hn414_1) (.slice Ao28 t409.length co28)).trans hx414_2
    clear hn414_0
    clear hn414_1
    replace p414 := eq_true p414
    replace q414 := eq_true q414
    have p415 : 0 ≤ (x9_2 : Int) := of_decide_eq_true (by first | (with_reducible assumption) | assumption)
    have q415 : x9_2 < (l1.length : Int) := of_decide_eq_true (by first | (with_reducible assumption) | assumption)
    obtain ⟨ad415, e415, hx415_0, hx415_1, hx415_2⟩ := at_T40 HR1.out x9_2 p415 q415
    obtain rfl : ad406 = ad415 := (by injection e415)
    have hn415_0 : ad406.block ≠ gb413 := Nat.ne_of_lt (Nat.lt_of_lt_of_le (by have := World.block_lt_of_cell? _ _ hx415_0; first | rwa [add_block] at this | exact this) GW413.out)
    have hn415_1 : ad406.block ≠ gb413 := Nat.ne_of_lt (Nat.lt_of_lt_of_le (by have := World.block_lt_of_cell? _ _ hx415_0; first | rwa [add_block] at this | exact this) GW413.out)
    replace hx415_0 := (HB.out.cell (World.block_lt_of_cell? w _ hx415_0)).trans hx415_0
    replace hx415_1 := (HB.out.cell (World.block_lt_of_cell? w _ hx415_1)).trans hx415_1
    replace hx415_2 := (HB.out.cell (World.block_lt_of_cell? w _ hx415_2)).trans hx415_2
    replace hx415_0 := (cell_far (p := ⟨gb413, 0, none⟩) (by first | (rw [add_block]; exact hn415_0) | (show (Addr.add _ _).block ≠ _; rw [add_block]; exact hn415_0) | exact hn415_0) (.int .i64 t408)).trans hx415_0
    replace hx415_1 := (cell_far (p := ⟨gb413, 0, none⟩) (by first | (rw [add_block]; exact hn415_0) | (show (Addr.add _ _).block ≠ _; rw [add_block]; exact hn415_0) | exact hn415_0) (.int .i64 t408)).trans hx415_1
    replace hx415_2 := (cell_far (p := ⟨gb413, 0, none⟩) (by first | (rw [add_block]; exact hn415_0) | (show (Addr.add _ _).block ≠ _; rw [add_block]; exact hn415_0) | exact hn415_0) (.int .i64 t408)).trans hx415_2
    replace hx415_0 := (cell_far (p := ⟨gb413, 1, none⟩) (by first | (rw [add_block]; exact hn415_1) | (show (Addr.add _ _).block ≠ _; rw [add_block]; exact hn415_1) | exact hn415_1) (.slice Ao28 t409.length co28)).trans hx415_0
    replace hx415_1 := (cell_far (p := ⟨gb413, 1, none⟩) (by first | (rw [add_block]; exact hn415_1) | (show (Addr.add _ _).block ≠ _; rw [add_block]; exact hn415_1) | exact hn415_1) (.slice Ao28 t409.length co28)).trans hx415_1
    replace hx415_2 := (cell_far (p := ⟨gb413, 1, none⟩) (by first | (rw [add_block]; exact hn415_1) | (show (Addr.add _ _).block ≠ _; rw [add_block]; exact hn415_1) | exact hn415_1) (.slice Ao28 t409.length co28)).trans hx415_2
    clear hn415_0
    clear hn415_1
    replace p415 := eq_true p415
    replace q415 := eq_true q415
    have hnb32 := NB413_405.out
    have hnc32 := NB405_413.out
    have hcz33_0 : w26.cell? ⟨gb413, 0, none⟩ = some (.int .i64 0) := (blk_cell BK413.out 0).trans rfl
    have hcz33_1 : w26.cell? ⟨gb413, 1, none⟩ = some (.slice none 0 0) := (blk_cell BK413.out 1).trans rfl
    have hfz33_0 := blk_frozen BK413.out 0
    have hfz33_1 := blk_frozen BK413.out 1
    have hcz34_0 : w26.cell? ⟨gb405, 0, none⟩ = some (.int .i64 x406000_2) := (blk_cell BK405.out 0).trans rfl
    have hcz34_1 : w26.cell? ⟨gb405, 1, none⟩ = some (.slice Ao22 x406001_2.length co22) := (blk_cell BK405.out 1).trans rfl
    have hfz34_0 := blk_frozen BK405.out 0
    have hfz34_1 := blk_frozen BK405.out 1
    go_wp2
    go_meet
    case rel => exact ⟨_, ((t408 != (wrap64 (x406000_2 + 1)))), (by first | rfl | (simp; done) | (simp [*]; done) | (simp [ne_nil_bytes]; done) | (simp [eq_nil_bytes]; done)), H', ⟨by have := HJ5.out; have := HK2.out; first | omega | exact Nat.le_refl _⟩, ⟨by (with_reducible repeat (first | apply Kd.V_alloc | apply Kd.V_drewN | apply Kd.V_drew)); exact Kd.V_mono (Kd.V_far (p := ⟨gb413, 1, none⟩) (Kd.V_far (p := ⟨gb413, 0, none⟩) (Kd.V_mono HO_406001.out (fun k_ hk => (⟨hk, hk.2⟩ : _ ∧ k_ ≠ gb413))) (fun _ hk => hk.2) (.int .i64 t408)) (fun _ hk => hk.2) (.slice Ao28 t409.length co28)) (fun _ hk => ⟨hk.1.1, hk.1.2⟩)⟩, ⟨by (with_reducible repeat (first | apply Kd.V_alloc | apply Kd.V_drewN | apply Kd.V_drew)); exact Kd.V_mono (Kd.V_far (p := ⟨gb413, 1, none⟩) (Kd.V_far (p := ⟨gb413, 0, none⟩) (Kd.V_mono HO411.out (fun k_ hk => (⟨hk, hk.2⟩ : _ ∧ k_ ≠ gb413))) (fun _ hk => hk.2) (.int .i64 t408)) (fun _ hk => hk.2) (.slice Ao28 t409.length co28)) (fun _ hk => ⟨hk.1.1, hk.1.2⟩)⟩, ⟨by (with_reducible repeat (first | refine blk_drewN ?_ _ | refine blk_drew ?_ | refine blk_alloc ?_ _)); refine blk_far ?_ NB405_413.out _; (with_reducible repeat (first | refine blk_drewN ?_ _ | refine blk_drew ?_ | refine blk_alloc ?_ _)); refine blk_far ?_ NB405_413.out _; exact bL BK405.out⟩, ⟨by (with_reducible repeat (first | refine blk_drewN ?_ _ | refine blk_drew ?_ | refine blk_alloc ?_ _)); refine blk_put (cs := #[.int .i64 t408, .slice none 0 0]) ?_ 1 _ rfl; (with_reducible repeat (first | refine blk_drewN ?_ _ | refine blk_drew ?_ | refine blk_alloc ?_ _)); refine blk_put (cs := #[.int .i64 0, .slice none 0 0]) ?_ 0 _ rfl; exact bL BK413.out⟩, ⟨hL HB.out⟩⟩
   as_aux_lemma =>
    clear HC21
    try clear c1
    try clear c2
    try clear p2
    try clear c3
    try clear p4
    try clear q4
    try clear hx4
    try clear c5
    try clear p6
    try clear c7
    try clear c8
    try clear c8b0
    try clear c8b0z
    try clear c8b1
    try clear c8b1z
    try clear c9
    try clear c11
    try clear c11b0
    try clear c11b0z
    try clear c11b1
    try clear c11b1z
    try clear c15
    try clear c16
    try clear c16b0
    try clear c16b0z
    try clear c17
    try clear c17b0
    try clear c17b0z
    try clear c18
    try clear c18b0
    try clear c18b0z
    try clear c18b1
    try clear c18b1z
    try clear c20
    try clear c20b0
    try clear c20b0z
    try clear c20b1
    try clear c20b1z
    try clear c30
    try clear c30b0
    try clear c30b0z
    try clear c31
    try clear c31b0
    try clear c31b0z
    try clear c32
    try clear hcz14_0
    try clear hcz14_1
    try clear hcz33_0
    try clear hcz33_1
    try clear hcz34_0
    try clear hcz34_1
    try clear hfz14_0
    try clear hfz14_1
    try clear hfz33_0
    try clear hfz33_1
    try clear hfz34_0
    try clear hfz34_1
    try clear hx406_0
    try clear hx406_1
    try clear hx406_2
    try clear hx407_0
    try clear hx407_1
    try clear hx407_2
    try clear hx414_0
    try clear hx414_1
    try clear hx414_2
    try clear hx415_0
    try clear hx415_1
    try clear hx415_2
    try clear p2
    try clear p406
    try clear p407
    try clear p414
    try clear p415
    try clear q406
    try clear q407
    try clear q414
    try clear q415
    obtain ⟨kq, x101_20, rfl, HA, HJ20, HO_406001, HO_414001, BK405, BK413, HB⟩ := hcut
    rcases kq with _ | kj20
    ·exact absurd HA.out (by simp [shelfmarklaw12_AtlasTiles.j2])
    have H := HA.out
    clear HA
    simp only [shelfmarklaw12_AtlasTiles.j2] at H
    by_cases c35 : x101_20 = true
    ·subst c35
     have H1 : (some false) = some r := by rw [if_pos rfl] at H; exact H
     clear H
     have H := H1
     clear H1
     obtain rfl := Option.some.inj H
     exact absurd HLAW.out (by decide)
    replace c35 := Bool.eq_false_iff.mpr c35
    subst c35
    have H1 : (if 0 ≤ x9_2 then (if x9_2 < (l1.length : Int) then ((atlas_Find.f kj20 x406000_2 x406001_2 ((rd_T40 l1 x9_2).f1)).bind fun bt417 => (shelfmarklaw12_AtlasTiles.l1 kj20 l1 l2 x9_2 bt417.1 0 x406000_2 x406001_2 t408 t409)) else (none)) else (none)) = some r := by rw [if_neg (show ¬ (false = true) by decide)] at H; exact H
    clear H
    have H := H1
    clear H1
    by_cases c36 : 0 ≤ x9_2
    rotate_left
    ·rw [if_neg c36] at H
     exact absurd H (by simp)
    rw [if_pos c36] at H
    have c36b0 : decide (0 ≤ x9_2) = true := decide_eq_true c36
    clear c36
    by_cases c37 : x9_2 < (l1.length : Int)
    rotate_left
    ·rw [if_neg c37] at H
     exact absurd H (by simp)
    rw [if_pos c37] at H
    have c37b0 : decide (x9_2 < (l1.length : Int)) = true := decide_eq_true c37
    clear c37
    replace H := Option.bind_eq_some_iff.mp H
    obtain ⟨⟨t417, t418⟩, A380, H⟩ := H
    replace H : (shelfmarklaw12_AtlasTiles.l1 kj20 l1 l2 x9_2 t417 0 x406000_2 x406001_2 t408 t409) = some r := H
    have A38 := Aside0.mk A380
    clear A380
    have H' := Aside0.mk H
    clear H
    try go_wp2
    have n0_ := Aside0.mk (Kd.V_drew HO_406001.out)
    have n1_ := Aside0.mk (Kd.V_drew HO_414001.out)
    have n2_ := Aside0.mk (blk_drew BK405.out)
    have n3_ := Aside0.mk (blk_drew BK413.out)
    have n4_ := Aside0.mk (below_drew1 HB.out)
    clear HO_406001
    clear HO_414001
    clear BK405
    clear BK413
    clear HB
    have HO_406001 := n0_
    have HO_414001 := n1_
    have BK405 := n2_
    have BK413 := n3_
    have HB := n4_
    clear n0_ n1_ n2_ n3_ n4_
    have p416 : 0 ≤ (x9_2 : Int) := of_decide_eq_true (by first | (with_reducible assumption) | assumption)
    have q416 : x9_2 < (l1.length : Int) := of_decide_eq_true (by first | (with_reducible assumption) | assumption)
    obtain ⟨ad416, e416, hx416_0, hx416_1, hx416_2⟩ := at_T40 HR1.out x9_2 p416 q416
    have hw416_2 := hx416_2
    have hw416_1 := hx416_1
    have hw416_0 := hx416_0
    obtain rfl : ad406 = ad416 := (by injection e416)
    replace hx416_0 := (HB.out.cell (World.block_lt_of_cell? w _ hx416_0)).trans hx416_0
    replace hx416_1 := (HB.out.cell (World.block_lt_of_cell? w _ hx416_1)).trans hx416_1
    replace hx416_2 := (HB.out.cell (World.block_lt_of_cell? w _ hx416_2)).trans hx416_2
    replace p416 := eq_true p416
    replace q416 := eq_true q416
    refine start_ (n := 12) (S := fun w' => w'.cell? ⟨gb405, 0, none⟩ = some (.int .i64 x406000_2) ∧ w'.cell? ⟨gb405, 1, none⟩ = some (.slice Ao22 x406001_2.length co22) ∧ w'.cell? (ad406.add ((x9_2).toNat * 3)) = some (.int .i64 ((rd_T40 l1 x9_2).f0)) ∧ w'.cell? ⟨(ad406.add ((x9_2).toNat * 3)).block, (ad406.add ((x9_2).toNat * 3)).off + 1, none⟩ = some (.string ((rd_T40 l1 x9_2).f1)) ∧ w'.cell? ⟨(ad406.add ((x9_2).toNat * 3)).block, (ad406.add ((x9_2).toNat * 3)).off + 2, none⟩ = some (.int .i64 ((rd_T40 l1 x9_2).f2))) (ds := []) #[false, false, false, false, false, false, false, false, false, false, false, false] (by as_aux_lemma => kernel_rfl) rfl rfl ⟨(blk_cell BK405.out 0).trans rfl, (blk_cell BK405.out 1).trans rfl, ((HB.out.cell (World.block_lt_of_cell? w _ hw416_0)).trans hw416_0), ((HB.out.cell (World.block_lt_of_cell? w _ hw416_1)).trans hw416_1), ((HB.out.cell (World.block_lt_of_cell? w _ hw416_2)).trans hw416_2)⟩ (fun hHeld => ?_); refine with_tabW shelfmarklaw12_AtlasTiles.tab19 shelfmarklaw12_AtlasTiles.bits19 (fun HT_ HW_ => ?_)
    generalize wc.drew = w39 at HO_406001 HO_414001 BK405 BK413 HB hx416_0 hx416_1 hx416_2 hHeld ⊢
    refine pure_ (i := 1) (N := some 104) (v := ?_) (a' := ?_) #[false, true, false, false, false, false, false, false, false, false, false, false] rfl rfl (any_of HT_.out (by as_aux_lemma => kernel_rfl)) (fun _ _ _ h => h) (Or.inl ⟨by rfl, ?_⟩) ?_ ?_
    rotate_left
    ·intro w'
     go_simp
     with_reducible rfl
    rotate_left
    ·simp only [Act.put, sT, sZ, sS, i64_w, i32_w]
     rfl
    refine pure_ (i := 2) (N := some 105) (v := ?_) (a' := ?_) #[false, true, true, false, false, false, false, false, false, false, false, false] rfl rfl (any_of HT_.out (by as_aux_lemma => kernel_rfl)) (fun _ _ _ h => h) (Or.inl ⟨by rfl, ?_⟩) ?_ ?_
    rotate_left
    ·intro w'
     go_simp
     with_reducible rfl
    rotate_left
    ·simp only [Act.put, sT, sZ, sS, i64_w, i32_w]
     rfl
    refine pure_ (i := 3) (N := some 106) (v := ?_) (a' := ?_) #[false, true, true, true, false, false, false, false, false, false, false, false] rfl rfl (any_of HT_.out (by as_aux_lemma => kernel_rfl)) (fun _ _ _ h => h) (Or.inl ⟨by rfl, ?_⟩) ?_ ?_
    rotate_left
    ·intro w'
     go_simp
     with_reducible rfl
    rotate_left
    ·simp only [Act.put, sT, sZ, sS, i64_w, i32_w]
     rfl
    refine pure_ (i := 4) (N := some 107) (v := ?_) (a' := ?_) #[false, true, true, true, true, false, false, false, false, false, false, false] rfl rfl (any_of HT_.out (by as_aux_lemma => kernel_rfl)) (fun _ _ _ h => h) (Or.inl ⟨by rfl, ?_⟩) ?_ ?_
    rotate_left
    ·intro w'
     go_simp
     with_reducible rfl
    rotate_left
    ·simp only [Act.put, sT, sZ, sS, i64_w, i32_w]
     rfl
    refine take_ (i := 0) (N := some 103) (v := ?_) (a' := ?_) #[true, true, true, true, true, false, false, false, false, false, false, false] rfl rfl (take_ofW HT_.out HW_.out (by as_aux_lemma => kernel_rfl)) (fun _ _ _ h => h) (Or.inl ⟨by rfl, ?_⟩) hHeld ?_ ?_
    rotate_left
    ·rintro w' ⟨s0, s1, s2, s3, s4⟩
     go_simp
     with_reducible rfl
    rotate_left
    ·simp only [Act.put, sT, sZ, sS, i64_w, i32_w]
     rfl
    refine take_ (i := 5) (N := some 108) (v := ?_) (a' := ?_) #[true, true, true, true, true, true, false, false, false, false, false, false] rfl rfl (take_ofW HT_.out HW_.out (by as_aux_lemma => kernel_rfl)) (fun _ _ _ h => h) (Or.inl ⟨by rfl, ?_⟩) hHeld ?_ ?_
    rotate_left
    ·rintro w' ⟨s0, s1, s2, s3, s4⟩
     go_simp
     with_reducible rfl
    rotate_left
    ·simp only [Act.put, sT, sZ, sS, i64_w, i32_w]
     rfl
    refine one_ (i := 6) (N := some 109) #[true, true, true, true, true, true, true, false, false, false, false, false] rfl rfl (one_of HT_.out (by as_aux_lemma => kernel_rfl)) (by decide) (fun K hK => ?_)
    refine goes_ Try.func11 (by as_aux_lemma => kernel_rfl) rfl #[.agg #[.int .i64 x406000_2, .slice Ao22 x406001_2.length co22], .string ((rd_T40 l1 x9_2).f1)] (by rfl) rfl rfl (by (try simp only [List.map_toArray, List.map_cons, List.map_nil]); first | done | rfl | (simp only [List.length_drop, List.length_take]; rfl)) ?_
    with_reducible refine (atlas_Find.calls kj20 x406000_2 _ _ x406001_2 ((rd_T40 l1 x9_2).f1) t417 t418 _ ?side1 ?side2 A38.out).mono ?_
    (case side1 => repeat (first | exact (Kd.V_reads' HO_406001.out).2.2 | (with_reducible refine Kd.C_alloc ?_ _) | (with_reducible refine Kd.C_drewN ?_ _) | (with_reducible refine Kd.C_drew ?_)))
    (case side2 => exact (Kd.V_reads' HO_406001.out).2.1)
    rintro e w40 ⟨rfl, hb⟩
    refine ⟨_, rfl, ?_⟩
    have n0_ := Aside0.mk (Kd.V_below (vL HO_406001.out) hb)
    have n1_ := Aside0.mk (Kd.V_below (vL HO_414001.out) hb)
    have n2_ := Aside0.mk (blk_below BK405.out hb)
    have n3_ := Aside0.mk (blk_below BK413.out hb)
    have n4_ := Aside0.mk (below_step (hL HB.out) hb)
    clear HO_406001
    clear HO_414001
    clear BK405
    clear BK413
    clear HB
    have HO_406001 := n0_
    have HO_414001 := n1_
    have BK405 := n2_
    have BK413 := n3_
    have HB := n4_
    clear n0_ n1_ n2_ n3_ n4_
    (try clear hb)
    (try clear hb2)
    (try clear hk)
    (try clear hi)
    refine hK.out _ _ ⟨(blk_cell BK405.out 0).trans rfl, (blk_cell BK405.out 1).trans rfl, ((HB.out.cell (World.block_lt_of_cell? w _ hw416_0)).trans hw416_0), ((HB.out.cell (World.block_lt_of_cell? w _ hw416_1)).trans hw416_1), ((HB.out.cell (World.block_lt_of_cell? w _ hw416_2)).trans hw416_2)⟩ (fun hHeld => ?_)
    clear hK K
    refine norm_ (a' := ?_) ?_ ?_
    rotate_left
    ·show Act.put _ (some 109) _ = _
     simp only [Act.put, sT, sZ, sS, i64_w, i32_w]
     rfl
    refine pure_ (i := 7) (N := some 102) (v := ?_) (a' := ?_) #[true, true, true, true, true, true, true, true, false, false, false, false] rfl rfl (any_of HT_.out (by as_aux_lemma => kernel_rfl)) (fun _ _ _ h => h) (Or.inl ⟨by rfl, ?_⟩) ?_ ?_
    rotate_left
    ·intro w'
     go_simp
     with_reducible rfl
    rotate_left
    ·simp only [Act.put, sT, sZ, sS, i64_w, i32_w]
     rfl
    refine pure_ (i := 8) (N := some 110) (v := ?_) (a' := ?_) #[true, true, true, true, true, true, true, true, true, false, false, false] rfl rfl (any_of HT_.out (by as_aux_lemma => kernel_rfl)) (fun _ _ _ h => h) (Or.inl ⟨by rfl, ?_⟩) ?_ ?_
    rotate_left
    ·intro w'
     go_simp
     with_reducible rfl
    rotate_left
    ·simp only [Act.put, sT, sZ, sS, i64_w, i32_w]
     rfl
    refine pure_ (i := 9) (N := some 111) (v := ?_) (a' := ?_) #[true, true, true, true, true, true, true, true, true, true, false, false] rfl rfl (any_of HT_.out (by as_aux_lemma => kernel_rfl)) (fun _ _ _ h => h) (Or.inl ⟨by rfl, ?_⟩) ?_ ?_
    rotate_left
    ·intro w'
     go_simp
     with_reducible rfl
    rotate_left
    ·simp only [Act.put, sT, sZ, sS, i64_w, i32_w]
     rfl
    refine pure_ (i := 10) (N := some 12) (v := ?_) (a' := ?_) #[true, true, true, true, true, true, true, true, true, true, true, false] rfl rfl (any_of HT_.out (by as_aux_lemma => kernel_rfl)) (fun _ _ _ h => h) (Or.inl ⟨by rfl, ?_⟩) ?_ ?_
    rotate_left
    ·intro w'
     go_simp
     with_reducible rfl
    rotate_left
    ·simp only [Act.put, sT, sZ, sS, i64_w, i32_w]
     rfl
    refine pure_ (i := 11) (N := some 13) (v := ?_) (a' := ?_) #[true, true, true, true, true, true, true, true, true, true, true, true] rfl rfl (any_of HT_.out (by as_aux_lemma => kernel_rfl)) (fun _ _ _ h => h) (Or.inl ⟨by rfl, ?_⟩) ?_ ?_
    rotate_left
    ·intro w'
     go_simp
     with_reducible rfl
    rotate_left
    ·simp only [Act.put, sT, sZ, sS, i64_w, i32_w]
     rfl
    refine done_ (done_of HT_.out (by as_aux_lemma => kernel_rfl)) ?_
    try go_wp2
    go_loopg [14] kj20 (fun kq v14 w' => ∃ (x14_4 : Int), v14 = .int .i64 x14_4 ∧ Aside0 (shelfmarklaw12_AtlasTiles.l1 kq l1 l2 x9_2 t417 x14_4 x406000_2 x406001_2 t408 t409 = some r) ∧ Aside0 (kq ≤ kj20) ∧ Aside0 (Kd.V k46 46 w' w.heap.size (fun k_ => k_ ≠ gb405 ∧ k_ ≠ gb413) (.slice Ao22 x406001_2.length co22) x406001_2) ∧ Aside0 (Kd.V k46 46 w' w.heap.size (fun k_ => k_ ≠ gb405 ∧ k_ ≠ gb413) (.slice Ao28 t409.length co28) t409) ∧ Aside0 (w'.heap[gb405]? = some (.cells #[.int .i64 x406000_2, (.slice Ao22 x406001_2.length co22)] 24 (0, 0))) ∧ Aside0 (w'.heap[gb413]? = some (.cells #[.int .i64 t408, (.slice Ao28 t409.length co28)] 24 (0, 0))) ∧ Aside0 (Below w.heap.size w w'))
    case atStart => exact ⟨(0), (by first | rfl | (simp; done) | (simp [*]; done) | (simp [ne_nil_bytes]; done) | (simp [eq_nil_bytes]; done)), H', ⟨Nat.le_refl _⟩, ⟨by exact vL HO_406001.out⟩, ⟨by exact vL HO_414001.out⟩, ⟨by exact bL BK405.out⟩, ⟨by exact bL BK413.out⟩, ⟨hL HB.out⟩⟩
    as_aux_lemma =>
     clear H'
     try clear c1
     try clear c2
     try clear p2
     try clear c3
     try clear p4
     try clear q4
     try clear hx4
     try clear c5
     try clear p6
     try clear c7
     try clear c8
     try clear c8b0
     try clear c8b0z
     try clear c8b1
     try clear c8b1z
     try clear c9
     try clear c11
     try clear c11b0
     try clear c11b0z
     try clear c11b1
     try clear c11b1z
     try clear c15
     try clear c16
     try clear c16b0
     try clear c16b0z
     try clear c17
     try clear c17b0
     try clear c17b0z
     try clear c18
     try clear c18b0
     try clear c18b0z
     try clear c18b1
     try clear c18b1z
     try clear c20
     try clear c20b0
     try clear c20b0z
     try clear c20b1
     try clear c20b1z
     try clear c30
     try clear c30b0
     try clear c30b0z
     try clear c31
     try clear c31b0
     try clear c31b0z
     try clear c32
     try clear c35
     try clear c36
     try clear c36b0
     try clear c36b0z
     try clear c37
     try clear c37b0
     try clear c37b0z
     try clear p40
     try clear q40
     try clear hx40
     try clear hcz14_0
     try clear hcz14_1
     try clear hcz33_0
     try clear hcz33_1
     try clear hcz34_0
     try clear hcz34_1
     try clear hfz14_0
     try clear hfz14_1
     try clear hfz33_0
     try clear hfz33_1
     try clear hfz34_0
     try clear hfz34_1
     try clear hx406_0
     try clear hx406_1
     try clear hx406_2
     try clear hx407_0
     try clear hx407_1
     try clear hx407_2
     try clear hx414_0
     try clear hx414_1
     try clear hx414_2
     try clear hx415_0
     try clear hx415_1
     try clear hx415_2
     try clear hx416_0
     try clear hx416_1
     try clear hx416_2
     try clear p2
     try clear p4
     try clear p406
     try clear p407
     try clear p414
     try clear p415
     try clear p416
     try clear p6
     try clear q4
     try clear q406
     try clear q407
     try clear q414
     try clear q415
     try clear q416
     obtain ⟨x14_4, rfl, HA, HK4, HO_406001, HO_414001, BK405, BK413, HB⟩ := hrel
     rcases gk with _ | k4
     ·exact absurd HA.out (by simp [shelfmarklaw12_AtlasTiles.l1])
     have H := HA.out
     clear HA
     simp only [shelfmarklaw12_AtlasTiles.l1] at H
     by_cases c41 : x14_4 < (l2.length : Int)
     rotate_left
     ·rw [if_neg c41] at H
      have c41b0 : decide (x14_4 < (l2.length : Int)) = false := decide_eq_false c41
      clear c41
      have H' := Aside0.mk H
      clear H
      have hnb135 := NB413_405.out
      have hnc135 := NB405_413.out
      have hcz136_0 : wr.cell? ⟨gb413, 0, none⟩ = some (.int .i64 t408) := (blk_cell BK413.out 0).trans rfl
      have hcz136_1 : wr.cell? ⟨gb413, 1, none⟩ = some (.slice Ao28 t409.length co28) := (blk_cell BK413.out 1).trans rfl
      have hfz136_0 := blk_frozen BK413.out 0
      have hfz136_1 := blk_frozen BK413.out 1
      have hcz137_0 : wr.cell? ⟨gb405, 0, none⟩ = some (.int .i64 x406000_2) := (blk_cell BK405.out 0).trans rfl
      have hcz137_1 : wr.cell? ⟨gb405, 1, none⟩ = some (.slice Ao22 x406001_2.length co22) := (blk_cell BK405.out 1).trans rfl
      have hfz137_0 := blk_frozen BK405.out 0
      have hfz137_1 := blk_frozen BK405.out 1
      go_wp2
      go_roundg k4
      case measure => have := HJ5.out; have := HK2.out; have := HJ20.out; have := HK4.out; omega
      case rel => exact ⟨(wrap64 (x9_2 + 1)), (t408), (t409), (.slice Ao28 t409.length co28), (by first | rfl | (simp; done) | (simp [*]; done) | (simp [ne_nil_bytes]; done) | (simp [eq_nil_bytes]; done)), H', ⟨by have := HJ5.out; have := HK2.out; have := HJ20.out; have := HK4.out; omega⟩, ⟨by (with_reducible repeat (first | apply Kd.V_alloc | apply Kd.V_drewN | apply Kd.V_drew)); exact Kd.V_mono (Kd.V_far (p := ⟨gb405, 1, none⟩) (Kd.V_far (p := ⟨gb405, 0, none⟩) (Kd.V_mono HO_414001.out (fun k_ hk => (⟨hk, hk.1⟩ : _ ∧ k_ ≠ gb405))) (fun _ hk => hk.2) (.int .i64 t408)) (fun _ hk => hk.2) (.slice Ao28 t409.length co28)) (fun _ hk => hk.1.1)⟩, ⟨by (with_reducible repeat (first | refine blk_drewN ?_ _ | refine blk_drew ?_ | refine blk_alloc ?_ _)); refine blk_put (cs := #[.int .i64 t408, .slice Ao22 x406001_2.length co22]) ?_ 1 _ rfl; (with_reducible repeat (first | refine blk_drewN ?_ _ | refine blk_drew ?_ | refine blk_alloc ?_ _)); refine blk_put (cs := #[.int .i64 x406000_2, .slice Ao22 x406001_2.length co22]) ?_ 0 _ rfl; exact bL BK405.out⟩, ⟨hL HB.out⟩⟩
     rw [if_pos c41] at H
     have c41b0 : decide (x14_4 < (l2.length : Int)) = true := decide_eq_true c41
     clear c41
     by_cases c42 : 0 ≤ x14_4
     rotate_left
     ·rw [if_neg c42] at H
      exact absurd H (by simp)
     rw [if_pos c42] at H
     have c42b0 : decide (0 ≤ x14_4) = true := decide_eq_true c42
     clear c42
     by_cases c43 : ((rdOf ByteArray.empty l2 x14_4).size : Int) > 300
     ·rw [if_pos c43] at H
      have c43b0 : decide (300 < ((rdOf ByteArray.empty l2 x14_4).size : Int)) = true := decide_eq_true c43
      have c43b1 : decide (300 < (rdOf ByteArray.empty l2 x14_4).size) = true := decide_eq_true (by omega)
      clear c43
      obtain rfl := Option.some.inj H
      simp only [Option.some.injEq, Prod.mk.injEq] at H
      obtain ⟨rfl⟩ := H
      have p419 : 0 ≤ (x14_4 : Int) := of_decide_eq_true (by first | (with_reducible assumption) | assumption)
      have q419 : x14_4 < (l2.length : Int) := of_decide_eq_true (by first | (with_reducible assumption) | assumption)
      obtain ⟨ad419, e419, hx419_0⟩ := Kd.at_string HR2.out x14_4 p419 q419
      cases e419
      replace hx419_0 := (HB.out.cell (World.block_lt_of_cell? w _ hx419_0)).trans hx419_0
      replace p419 := eq_true p419
      replace q419 := eq_true q419
      go_wp2
      go_ret
      exact ⟨by first | rfl | (simp [errW_none, errW_some] <;> rfl) | (simp [*, errW_none, errW_some] <;> rfl), hL HB.out⟩
     rw [if_neg c43] at H
     have c43b0 : decide (300 < ((rdOf ByteArray.empty l2 x14_4).size : Int)) = false := decide_eq_false c43
     have c43b1 : decide (300 < (rdOf ByteArray.empty l2 x14_4).size) = false := decide_eq_false (by omega)
     clear c43
     replace H := Option.bind_eq_some_iff.mp H
     obtain ⟨⟨t421, t422⟩, A440, H⟩ := H
     replace H : ((atlas_Find.f k4 t408 t409 (rdOf ByteArray.empty l2 x14_4)).bind fun bt424 => (if t422 = true then (if bt424.2 = true then (if t421 < 0 then (shelfmarklaw12_AtlasTiles.j4 k4 l1 l2 x9_2 t417 x14_4 t421 bt424.1 true x406000_2 x406001_2 t408 t409) else (if bt424.1 < 0 then (shelfmarklaw12_AtlasTiles.j4 k4 l1 l2 x9_2 t417 x14_4 t421 bt424.1 true x406000_2 x406001_2 t408 t409) else (if t421 ≥ (x406001_2.length : Int) then (shelfmarklaw12_AtlasTiles.j4 k4 l1 l2 x9_2 t417 x14_4 t421 bt424.1 true x406000_2 x406001_2 t408 t409) else (shelfmarklaw12_AtlasTiles.j4 k4 l1 l2 x9_2 t417 x14_4 t421 bt424.1 (decide (bt424.1 ≥ (t409.length : Int))) x406000_2 x406001_2 t408 t409)))) else (shelfmarklaw12_AtlasTiles.j4 k4 l1 l2 x9_2 t417 x14_4 t421 bt424.1 true x406000_2 x406001_2 t408 t409)) else (shelfmarklaw12_AtlasTiles.j4 k4 l1 l2 x9_2 t417 x14_4 t421 bt424.1 true x406000_2 x406001_2 t408 t409))) = some r := H
     have A44 := Aside0.mk A440
     clear A440
     replace H := Option.bind_eq_some_iff.mp H
     obtain ⟨⟨t424, t425⟩, A450, H⟩ := H
     replace H : (if t422 = true then (if t425 = true then (if t421 < 0 then (shelfmarklaw12_AtlasTiles.j4 k4 l1 l2 x9_2 t417 x14_4 t421 t424 true x406000_2 x406001_2 t408 t409) else (if t424 < 0 then (shelfmarklaw12_AtlasTiles.j4 k4 l1 l2 x9_2 t417 x14_4 t421 t424 true x406000_2 x406001_2 t408 t409) else (if t421 ≥ (x406001_2.length : Int) then (shelfmarklaw12_AtlasTiles.j4 k4 l1 l2 x9_2 t417 x14_4 t421 t424 true x406000_2 x406001_2 t408 t409) else (shelfmarklaw12_AtlasTiles.j4 k4 l1 l2 x9_2 t417 x14_4 t421 t424 (decide (t424 ≥ (t409.length : Int))) x406000_2 x406001_2 t408 t409)))) else (shelfmarklaw12_AtlasTiles.j4 k4 l1 l2 x9_2 t417 x14_4 t421 t424 true x406000_2 x406001_2 t408 t409)) else (shelfmarklaw12_AtlasTiles.j4 k4 l1 l2 x9_2 t417 x14_4 t421 t424 true x406000_2 x406001_2 t408 t409)) = some r := H
     have A45 := Aside0.mk A450
     clear A450
     have HC46 := Aside0.mk H
     clear H
     have p419 : 0 ≤ (x14_4 : Int) := of_decide_eq_true (by first | (with_reducible assumption) | assumption)
     have q419 : x14_4 < (l2.length : Int) := of_decide_eq_true (by first | (with_reducible assumption) | assumption)
     obtain ⟨ad419, e419, hx419_0⟩ := Kd.at_string HR2.out x14_4 p419 q419
     cases e419
     replace hx419_0 := (HB.out.cell (World.block_lt_of_cell? w _ hx419_0)).trans hx419_0
     replace p419 := eq_true p419
     replace q419 := eq_true q419
     try go_wp2
     have n0_ := Aside0.mk (Kd.V_drew HO_406001.out)
     have n1_ := Aside0.mk (Kd.V_drew HO_414001.out)
     have n2_ := Aside0.mk (blk_drew BK405.out)
     have n3_ := Aside0.mk (blk_drew BK413.out)
     have n4_ := Aside0.mk (below_drew1 HB.out)
     clear HO_406001
     clear HO_414001
     clear BK405
     clear BK413
     clear HB
     have HO_406001 := n0_
     have HO_414001 := n1_
     have BK405 := n2_
     have BK413 := n3_
     have HB := n4_
     clear n0_ n1_ n2_ n3_ n4_
     have p420 : 0 ≤ (x14_4 : Int) := of_decide_eq_true (by first | (with_reducible assumption) | assumption)
     have q420 : x14_4 < (l2.length : Int) := of_decide_eq_true (by first | (with_reducible assumption) | assumption)
     obtain ⟨ad420, e420, hx420_0⟩ := Kd.at_string HR2.out x14_4 p420 q420
     have hw420_0 := hx420_0
     obtain rfl : ad419 = ad420 := (by injection e420)
     replace hx420_0 := (HB.out.cell (World.block_lt_of_cell? w _ hx420_0)).trans hx420_0
     replace p420 := eq_true p420
     replace q420 := eq_true q420
     refine start_ (n := 11) (S := fun w' => w'.cell? ⟨gb405, 0, none⟩ = some (.int .i64 x406000_2) ∧ w'.cell? ⟨gb405, 1, none⟩ = some (.slice Ao22 x406001_2.length co22) ∧ w'.cell? (ad419.add (x14_4).toNat) = some (.string (rdOf ByteArray.empty l2 x14_4))) (ds := []) #[false, false, false, false, false, false, false, false, false, false, false] (by as_aux_lemma => kernel_rfl) rfl rfl ⟨(blk_cell BK405.out 0).trans rfl, (blk_cell BK405.out 1).trans rfl, ((HB.out.cell (World.block_lt_of_cell? w _ hw420_0)).trans hw420_0)⟩ (fun hHeld => ?_); refine with_tabW shelfmarklaw12_AtlasTiles.tab25 shelfmarklaw12_AtlasTiles.bits25 (fun HT_ HW_ => ?_)
     generalize wr.drew = w47 at HO_406001 HO_414001 BK405 BK413 HB hx420_0 hHeld ⊢
     refine pure_ (i := 1) (N := some 126) (v := ?_) (a' := ?_) #[false, true, false, false, false, false, false, false, false, false, false] rfl rfl (any_of HT_.out (by as_aux_lemma => kernel_rfl)) (fun _ _ _ h => h) (Or.inl ⟨by rfl, ?_⟩) ?_ ?_
     rotate_left
     ·intro w'
      go_simp
      with_reducible rfl
     rotate_left
     ·simp only [Act.put, sT, sZ, sS, i64_w, i32_w]
      rfl
     refine pure_ (i := 2) (N := some 127) (v := ?_) (a' := ?_) #[false, true, true, false, false, false, false, false, false, false, false] rfl rfl (any_of HT_.out (by as_aux_lemma => kernel_rfl)) (fun _ _ _ h => h) (Or.inl ⟨by rfl, ?_⟩) ?_ ?_
     rotate_left
     ·intro w'
      go_simp
      with_reducible rfl
     rotate_left
     ·simp only [Act.put, sT, sZ, sS, i64_w, i32_w]
      rfl
     refine pure_ (i := 3) (N := some 128) (v := ?_) (a' := ?_) #[false, true, true, true, false, false, false, false, false, false, false] rfl rfl (any_of HT_.out (by as_aux_lemma => kernel_rfl)) (fun _ _ _ h => h) (Or.inl ⟨by rfl, ?_⟩) ?_ ?_
     rotate_left
     ·intro w'
      go_simp
      with_reducible rfl
     rotate_left
     ·simp only [Act.put, sT, sZ, sS, i64_w, i32_w]
      rfl
     refine take_ (i := 0) (N := some 125) (v := ?_) (a' := ?_) #[true, true, true, true, false, false, false, false, false, false, false] rfl rfl (take_ofW HT_.out HW_.out (by as_aux_lemma => kernel_rfl)) (fun _ _ _ h => h) (Or.inl ⟨by rfl, ?_⟩) hHeld ?_ ?_
     rotate_left
     ·rintro w' ⟨s0, s1, s2⟩
      go_simp
      with_reducible rfl
     rotate_left
     ·simp only [Act.put, sT, sZ, sS, i64_w, i32_w]
      rfl
     refine take_ (i := 4) (N := some 129) (v := ?_) (a' := ?_) #[true, true, true, true, true, false, false, false, false, false, false] rfl rfl (take_ofW HT_.out HW_.out (by as_aux_lemma => kernel_rfl)) (fun _ _ _ h => h) (Or.inl ⟨by rfl, ?_⟩) hHeld ?_ ?_
     rotate_left
     ·rintro w' ⟨s0, s1, s2⟩
      go_simp
      with_reducible rfl
     rotate_left
     ·simp only [Act.put, sT, sZ, sS, i64_w, i32_w]
      rfl
     refine one_ (i := 5) (N := some 130) #[true, true, true, true, true, true, false, false, false, false, false] rfl rfl (one_of HT_.out (by as_aux_lemma => kernel_rfl)) (by decide) (fun K hK => ?_)
     refine goes_ Try.func11 (by as_aux_lemma => kernel_rfl) rfl #[.agg #[.int .i64 x406000_2, .slice Ao22 x406001_2.length co22], .string (rdOf ByteArray.empty l2 x14_4)] (by rfl) rfl rfl (by (try simp only [List.map_toArray, List.map_cons, List.map_nil]); first | done | rfl | (simp only [List.length_drop, List.length_take]; rfl)) ?_
     with_reducible refine (atlas_Find.calls k4 x406000_2 _ _ x406001_2 (rdOf ByteArray.empty l2 x14_4) t421 t422 _ ?side1 ?side2 A44.out).mono ?_
     (case side1 => repeat (first | exact (Kd.V_reads' HO_406001.out).2.2 | (with_reducible refine Kd.C_alloc ?_ _) | (with_reducible refine Kd.C_drewN ?_ _) | (with_reducible refine Kd.C_drew ?_)))
     (case side2 => exact (Kd.V_reads' HO_406001.out).2.1)
     rintro e w48 ⟨rfl, hb⟩
     refine ⟨_, rfl, ?_⟩
     have n0_ := Aside0.mk (Kd.V_below (vL HO_406001.out) hb)
     have n1_ := Aside0.mk (Kd.V_below (vL HO_414001.out) hb)
     have n2_ := Aside0.mk (blk_below BK405.out hb)
     have n3_ := Aside0.mk (blk_below BK413.out hb)
     have n4_ := Aside0.mk (below_step (hL HB.out) hb)
     clear HO_406001
     clear HO_414001
     clear BK405
     clear BK413
     clear HB
     have HO_406001 := n0_
     have HO_414001 := n1_
     have BK405 := n2_
     have BK413 := n3_
     have HB := n4_
     clear n0_ n1_ n2_ n3_ n4_
     (try clear hb)
     (try clear hb2)
     (try clear hk)
     (try clear hi)
     refine hK.out _ _ ⟨(blk_cell BK405.out 0).trans rfl, (blk_cell BK405.out 1).trans rfl, ((HB.out.cell (World.block_lt_of_cell? w _ hw420_0)).trans hw420_0)⟩ (fun hHeld => ?_)
     clear hK K
     refine norm_ (a' := ?_) ?_ ?_
     rotate_left
     ·show Act.put _ (some 130) _ = _
      simp only [Act.put, sT, sZ, sS, i64_w, i32_w]
      rfl
     refine pure_ (i := 6) (N := some 124) (v := ?_) (a' := ?_) #[true, true, true, true, true, true, true, false, false, false, false] rfl rfl (any_of HT_.out (by as_aux_lemma => kernel_rfl)) (fun _ _ _ h => h) (Or.inl ⟨by rfl, ?_⟩) ?_ ?_
     rotate_left
     ·intro w'
      go_simp
      with_reducible rfl
     rotate_left
     ·simp only [Act.put, sT, sZ, sS, i64_w, i32_w]
      rfl
     refine pure_ (i := 7) (N := some 131) (v := ?_) (a' := ?_) #[true, true, true, true, true, true, true, true, false, false, false] rfl rfl (any_of HT_.out (by as_aux_lemma => kernel_rfl)) (fun _ _ _ h => h) (Or.inl ⟨by rfl, ?_⟩) ?_ ?_
     rotate_left
     ·intro w'
      go_simp
      with_reducible rfl
     rotate_left
     ·simp only [Act.put, sT, sZ, sS, i64_w, i32_w]
      rfl
     refine pure_ (i := 8) (N := some 132) (v := ?_) (a' := ?_) #[true, true, true, true, true, true, true, true, true, false, false] rfl rfl (any_of HT_.out (by as_aux_lemma => kernel_rfl)) (fun _ _ _ h => h) (Or.inl ⟨by rfl, ?_⟩) ?_ ?_
     rotate_left
     ·intro w'
      go_simp
      with_reducible rfl
     rotate_left
     ·simp only [Act.put, sT, sZ, sS, i64_w, i32_w]
      rfl
     refine pure_ (i := 9) (N := some 15) (v := ?_) (a' := ?_) #[true, true, true, true, true, true, true, true, true, true, false] rfl rfl (any_of HT_.out (by as_aux_lemma => kernel_rfl)) (fun _ _ _ h => h) (Or.inl ⟨by rfl, ?_⟩) ?_ ?_
     rotate_left
     ·intro w'
      go_simp
      with_reducible rfl
     rotate_left
     ·simp only [Act.put, sT, sZ, sS, i64_w, i32_w]
      rfl
     refine pure_ (i := 10) (N := some 16) (v := ?_) (a' := ?_) #[true, true, true, true, true, true, true, true, true, true, true] rfl rfl (any_of HT_.out (by as_aux_lemma => kernel_rfl)) (fun _ _ _ h => h) (Or.inl ⟨by rfl, ?_⟩) ?_ ?_
     rotate_left
     ·intro w'
      go_simp
      with_reducible rfl
     rotate_left
     ·simp only [Act.put, sT, sZ, sS, i64_w, i32_w]
      rfl
     refine done_ (done_of HT_.out (by as_aux_lemma => kernel_rfl)) ?_
     try go_wp2
     have n0_ := Aside0.mk (Kd.V_drew HO_406001.out)
     have n1_ := Aside0.mk (Kd.V_drew HO_414001.out)
     have n2_ := Aside0.mk (blk_drew BK405.out)
     have n3_ := Aside0.mk (blk_drew BK413.out)
     have n4_ := Aside0.mk (below_drew1 HB.out)
     clear HO_406001
     clear HO_414001
     clear BK405
     clear BK413
     clear HB
     have HO_406001 := n0_
     have HO_414001 := n1_
     have BK405 := n2_
     have BK413 := n3_
     have HB := n4_
     clear n0_ n1_ n2_ n3_ n4_
     have p423 : 0 ≤ (x14_4 : Int) := of_decide_eq_true (by first | (with_reducible assumption) | assumption)
     have q423 : x14_4 < (l2.length : Int) := of_decide_eq_true (by first | (with_reducible assumption) | assumption)
     obtain ⟨ad423, e423, hx423_0⟩ := Kd.at_string HR2.out x14_4 p423 q423
     have hw423_0 := hx423_0
     obtain rfl : ad419 = ad423 := (by injection e423)
     replace hx423_0 := (HB.out.cell (World.block_lt_of_cell? w _ hx423_0)).trans hx423_0
     replace p423 := eq_true p423
     replace q423 := eq_true q423
     refine start_ (n := 11) (S := fun w' => w'.cell? ⟨gb413, 0, none⟩ = some (.int .i64 t408) ∧ w'.cell? ⟨gb413, 1, none⟩ = some (.slice Ao28 t409.length co28) ∧ w'.cell? (ad419.add (x14_4).toNat) = some (.string (rdOf ByteArray.empty l2 x14_4))) (ds := []) #[false, false, false, false, false, false, false, false, false, false, false] (by as_aux_lemma => kernel_rfl) rfl rfl ⟨(blk_cell BK413.out 0).trans rfl, (blk_cell BK413.out 1).trans rfl, ((HB.out.cell (World.block_lt_of_cell? w _ hw423_0)).trans hw423_0)⟩ (fun hHeld => ?_); refine with_tabW shelfmarklaw12_AtlasTiles.tab26 shelfmarklaw12_AtlasTiles.bits26 (fun HT_ HW_ => ?_)
     generalize w48.drew = w49 at HO_406001 HO_414001 BK405 BK413 HB hx423_0 hHeld ⊢
     refine pure_ (i := 1) (N := some 135) (v := ?_) (a' := ?_) #[false, true, false, false, false, false, false, false, false, false, false] rfl rfl (any_of HT_.out (by as_aux_lemma => kernel_rfl)) (fun _ _ _ h => h) (Or.inl ⟨by rfl, ?_⟩) ?_ ?_
     rotate_left
     ·intro w'
      go_simp
      with_reducible rfl
     rotate_left
     ·simp only [Act.put, sT, sZ, sS, i64_w, i32_w]
      rfl
     refine pure_ (i := 2) (N := some 136) (v := ?_) (a' := ?_) #[false, true, true, false, false, false, false, false, false, false, false] rfl rfl (any_of HT_.out (by as_aux_lemma => kernel_rfl)) (fun _ _ _ h => h) (Or.inl ⟨by rfl, ?_⟩) ?_ ?_
     rotate_left
     ·intro w'
      go_simp
      with_reducible rfl
     rotate_left
     ·simp only [Act.put, sT, sZ, sS, i64_w, i32_w]
      rfl
     refine pure_ (i := 3) (N := some 137) (v := ?_) (a' := ?_) #[false, true, true, true, false, false, false, false, false, false, false] rfl rfl (any_of HT_.out (by as_aux_lemma => kernel_rfl)) (fun _ _ _ h => h) (Or.inl ⟨by rfl, ?_⟩) ?_ ?_
     rotate_left
     ·intro w'
      go_simp
      with_reducible rfl
     rotate_left
     ·simp only [Act.put, sT, sZ, sS, i64_w, i32_w]
      rfl
     refine take_ (i := 0) (N := some 134) (v := ?_) (a' := ?_) #[true, true, true, true, false, false, false, false, false, false, false] rfl rfl (take_ofW HT_.out HW_.out (by as_aux_lemma => kernel_rfl)) (fun _ _ _ h => h) (Or.inl ⟨by rfl, ?_⟩) hHeld ?_ ?_
     rotate_left
     ·rintro w' ⟨s0, s1, s2⟩
      go_simp
      with_reducible rfl
     rotate_left
     ·simp only [Act.put, sT, sZ, sS, i64_w, i32_w]
      rfl
     refine take_ (i := 4) (N := some 138) (v := ?_) (a' := ?_) #[true, true, true, true, true, false, false, false, false, false, false] rfl rfl (take_ofW HT_.out HW_.out (by as_aux_lemma => kernel_rfl)) (fun _ _ _ h => h) (Or.inl ⟨by rfl, ?_⟩) hHeld ?_ ?_
     rotate_left
     ·rintro w' ⟨s0, s1, s2⟩
      go_simp
      with_reducible rfl
     rotate_left
     ·simp only [Act.put, sT, sZ, sS, i64_w, i32_w]
      rfl
     refine one_ (i := 5) (N := some 139) #[true, true, true, true, true, true, false, false, false, false, false] rfl rfl (one_of HT_.out (by as_aux_lemma => kernel_rfl)) (by decide) (fun K hK => ?_)
     refine goes_ Try.func11 (by as_aux_lemma => kernel_rfl) rfl #[.agg #[.int .i64 t408, .slice Ao28 t409.length co28], .string (rdOf ByteArray.empty l2 x14_4)] (by rfl) rfl rfl (by (try simp only [List.map_toArray, List.map_cons, List.map_nil]); first | done | rfl | (simp only [List.length_drop, List.length_take]; rfl)) ?_
     with_reducible refine (atlas_Find.calls k4 t408 _ _ t409 (rdOf ByteArray.empty l2 x14_4) t424 t425 _ ?side1 ?side2 A45.out).mono ?_
     (case side1 => repeat (first | exact (Kd.V_reads' HO_414001.out).2.2 | (with_reducible refine Kd.C_alloc ?_ _) | (with_reducible refine Kd.C_drewN ?_ _) | (with_reducible refine Kd.C_drew ?_)))
     (case side2 => exact (Kd.V_reads' HO_414001.out).2.1)
     rintro e w50 ⟨rfl, hb⟩
     refine ⟨_, rfl, ?_⟩
     have n0_ := Aside0.mk (Kd.V_below (vL HO_406001.out) hb)
     have n1_ := Aside0.mk (Kd.V_below (vL HO_414001.out) hb)
     have n2_ := Aside0.mk (blk_below BK405.out hb)
     have n3_ := Aside0.mk (blk_below BK413.out hb)
     have n4_ := Aside0.mk (below_step (hL HB.out) hb)
     clear HO_406001
     clear HO_414001
     clear BK405
     clear BK413
     clear HB
     have HO_406001 := n0_
     have HO_414001 := n1_
     have BK405 := n2_
     have BK413 := n3_
     have HB := n4_
     clear n0_ n1_ n2_ n3_ n4_
     (try clear hb)
     (try clear hb2)
     (try clear hk)
     (try clear hi)
     refine hK.out _ _ ⟨(blk_cell BK413.out 0).trans rfl, (blk_cell BK413.out 1).trans rfl, ((HB.out.cell (World.block_lt_of_cell? w _ hw423_0)).trans hw423_0)⟩ (fun hHeld => ?_)
     clear hK K
     refine norm_ (a' := ?_) ?_ ?_
     rotate_left
     ·show Act.put _ (some 139) _ = _
      simp only [Act.put, sT, sZ, sS, i64_w, i32_w]
      rfl
     refine pure_ (i := 6) (N := some 133) (v := ?_) (a' := ?_) #[true, true, true, true, true, true, true, false, false, false, false] rfl rfl (any_of HT_.out (by as_aux_lemma => kernel_rfl)) (fun _ _ _ h => h) (Or.inl ⟨by rfl, ?_⟩) ?_ ?_
     rotate_left
     ·intro w'
      go_simp
      with_reducible rfl
     rotate_left
     ·simp only [Act.put, sT, sZ, sS, i64_w, i32_w]
      rfl
     refine pure_ (i := 7) (N := some 140) (v := ?_) (a' := ?_) #[true, true, true, true, true, true, true, true, false, false, false] rfl rfl (any_of HT_.out (by as_aux_lemma => kernel_rfl)) (fun _ _ _ h => h) (Or.inl ⟨by rfl, ?_⟩) ?_ ?_
     rotate_left
     ·intro w'
      go_simp
      with_reducible rfl
     rotate_left
     ·simp only [Act.put, sT, sZ, sS, i64_w, i32_w]
      rfl
     refine pure_ (i := 8) (N := some 141) (v := ?_) (a' := ?_) #[true, true, true, true, true, true, true, true, true, false, false] rfl rfl (any_of HT_.out (by as_aux_lemma => kernel_rfl)) (fun _ _ _ h => h) (Or.inl ⟨by rfl, ?_⟩) ?_ ?_
     rotate_left
     ·intro w'
      go_simp
      with_reducible rfl
     rotate_left
     ·simp only [Act.put, sT, sZ, sS, i64_w, i32_w]
      rfl
     refine pure_ (i := 9) (N := some 17) (v := ?_) (a' := ?_) #[true, true, true, true, true, true, true, true, true, true, false] rfl rfl (any_of HT_.out (by as_aux_lemma => kernel_rfl)) (fun _ _ _ h => h) (Or.inl ⟨by rfl, ?_⟩) ?_ ?_
     rotate_left
     ·intro w'
      go_simp
      with_reducible rfl
     rotate_left
     ·simp only [Act.put, sT, sZ, sS, i64_w, i32_w]
      rfl
     refine pure_ (i := 10) (N := some 18) (v := ?_) (a' := ?_) #[true, true, true, true, true, true, true, true, true, true, true] rfl rfl (any_of HT_.out (by as_aux_lemma => kernel_rfl)) (fun _ _ _ h => h) (Or.inl ⟨by rfl, ?_⟩) ?_ ?_
     rotate_left
     ·intro w'
      go_simp
      with_reducible rfl
     rotate_left
     ·simp only [Act.put, sT, sZ, sS, i64_w, i32_w]
      rfl
     refine done_ (done_of HT_.out (by as_aux_lemma => kernel_rfl)) ?_
     go_upto_region 27 with (fail)
     go_cut [169] (fun v169 wc => ∃ (kq : Nat) (x169_45 : Bool), v169 = .bool x169_45 ∧ Aside0 (shelfmarklaw12_AtlasTiles.j4 kq l1 l2 x9_2 t417 x14_4 t421 t424 x169_45 x406000_2 x406001_2 t408 t409 = some r) ∧ Aside0 (kq ≤ k4) ∧ Aside0 (Kd.V k46 46 wc w.heap.size (fun k_ => k_ ≠ gb405 ∧ k_ ≠ gb413) (.slice Ao22 x406001_2.length co22) x406001_2) ∧ Aside0 (Kd.V k46 46 wc w.heap.size (fun k_ => k_ ≠ gb405 ∧ k_ ≠ gb413) (.slice Ao28 t409.length co28) t409) ∧ Aside0 (wc.heap[gb405]? = some (.cells #[.int .i64 x406000_2, (.slice Ao22 x406001_2.length co22)] 24 (0, 0))) ∧ Aside0 (wc.heap[gb413]? = some (.cells #[.int .i64 t408, (.slice Ao28 t409.length co28)] 24 (0, 0))) ∧ Aside0 (Below w.heap.size w wc))
     case first =>
      have H := HC46.out
      clear HC46
      by_cases c51 : t422 = true
      rotate_left
      ·replace c51 := Bool.eq_false_iff.mpr c51
       subst c51
       have H1 : (shelfmarklaw12_AtlasTiles.j4 k4 l1 l2 x9_2 t417 x14_4 t421 t424 true x406000_2 x406001_2 t408 t409) = some r := by rw [if_neg (show ¬ (false = true) by decide)] at H; exact H
       clear H
       have H := H1
       clear H1
       have H' := Aside0.mk H
       clear H
       go_wp2
       go_meet
       case rel => exact ⟨_, (true), (by first | rfl | (simp; done) | (simp [*]; done) | (simp [ne_nil_bytes]; done) | (simp [eq_nil_bytes]; done)), H', ⟨by have := HJ5.out; have := HK2.out; have := HJ20.out; have := HK4.out; first | omega | exact Nat.le_refl _⟩, ⟨by exact vL HO_406001.out⟩, ⟨by exact vL HO_414001.out⟩, ⟨by exact bL BK405.out⟩, ⟨by exact bL BK413.out⟩, ⟨hL HB.out⟩⟩
      subst c51
      have H1 : (if t425 = true then (if t421 < 0 then (shelfmarklaw12_AtlasTiles.j4 k4 l1 l2 x9_2 t417 x14_4 t421 t424 true x406000_2 x406001_2 t408 t409) else (if t424 < 0 then (shelfmarklaw12_AtlasTiles.j4 k4 l1 l2 x9_2 t417 x14_4 t421 t424 true x406000_2 x406001_2 t408 t409) else (if t421 ≥ (x406001_2.length : Int) then (shelfmarklaw12_AtlasTiles.j4 k4 l1 l2 x9_2 t417 x14_4 t421 t424 true x406000_2 x406001_2 t408 t409) else (shelfmarklaw12_AtlasTiles.j4 k4 l1 l2 x9_2 t417 x14_4 t421 t424 (decide (t424 ≥ (t409.length : Int))) x406000_2 x406001_2 t408 t409)))) else (shelfmarklaw12_AtlasTiles.j4 k4 l1 l2 x9_2 t417 x14_4 t421 t424 true x406000_2 x406001_2 t408 t409)) = some r := by rw [if_pos rfl] at H; exact H
      clear H
      have H := H1
      clear H1
      by_cases c52 : t425 = true
      rotate_left
      ·replace c52 := Bool.eq_false_iff.mpr c52
       subst c52
       have H1 : (shelfmarklaw12_AtlasTiles.j4 k4 l1 l2 x9_2 t417 x14_4 t421 t424 true x406000_2 x406001_2 t408 t409) = some r := by rw [if_neg (show ¬ (false = true) by decide)] at H; exact H
       clear H
       have H := H1
       clear H1
       have H' := Aside0.mk H
       clear H
       go_wp2
       go_meet
       case rel => exact ⟨_, (true), (by first | rfl | (simp; done) | (simp [*]; done) | (simp [ne_nil_bytes]; done) | (simp [eq_nil_bytes]; done)), H', ⟨by have := HJ5.out; have := HK2.out; have := HJ20.out; have := HK4.out; first | omega | exact Nat.le_refl _⟩, ⟨by exact vL HO_406001.out⟩, ⟨by exact vL HO_414001.out⟩, ⟨by exact bL BK405.out⟩, ⟨by exact bL BK413.out⟩, ⟨hL HB.out⟩⟩
      subst c52
      have H1 : (if t421 < 0 then (shelfmarklaw12_AtlasTiles.j4 k4 l1 l2 x9_2 t417 x14_4 t421 t424 true x406000_2 x406001_2 t408 t409) else (if t424 < 0 then (shelfmarklaw12_AtlasTiles.j4 k4 l1 l2 x9_2 t417 x14_4 t421 t424 true x406000_2 x406001_2 t408 t409) else (if t421 ≥ (x406001_2.length : Int) then (shelfmarklaw12_AtlasTiles.j4 k4 l1 l2 x9_2 t417 x14_4 t421 t424 true x406000_2 x406001_2 t408 t409) else (shelfmarklaw12_AtlasTiles.j4 k4 l1 l2 x9_2 t417 x14_4 t421 t424 (decide (t424 ≥ (t409.length : Int))) x406000_2 x406001_2 t408 t409)))) = some r := by rw [if_pos rfl] at H; exact H
      clear H
      have H := H1
      clear H1
      by_cases c53 : t421 < 0
      ·rw [if_pos c53] at H
       have c53b0 : decide (t421 < 0) = true := decide_eq_true c53
       clear c53
       (first | rw [c53b0] | (simp only [i64_w, i32_w]; rw [c53b0]) | skip)
       have H' := Aside0.mk H
       clear H
       go_wp2
       go_meet
       case rel => exact ⟨_, (true), (by first | rfl | (simp; done) | (simp [*]; done) | (simp [ne_nil_bytes]; done) | (simp [eq_nil_bytes]; done)), H', ⟨by have := HJ5.out; have := HK2.out; have := HJ20.out; have := HK4.out; first | omega | exact Nat.le_refl _⟩, ⟨by exact vL HO_406001.out⟩, ⟨by exact vL HO_414001.out⟩, ⟨by exact bL BK405.out⟩, ⟨by exact bL BK413.out⟩, ⟨hL HB.out⟩⟩
      rw [if_neg c53] at H
      have c53b0 : decide (t421 < 0) = false := decide_eq_false c53
      clear c53
      (first | rw [c53b0] | (simp only [i64_w, i32_w]; rw [c53b0]) | skip)
      by_cases c54 : t424 < 0
      ·rw [if_pos c54] at H
       have c54b0 : decide (t424 < 0) = true := decide_eq_true c54
       clear c54
       have H' := Aside0.mk H
       clear H
       go_wp2
       go_meet
       case rel => exact ⟨_, (true), (by first | rfl | (simp; done) | (simp [*]; done) | (simp [ne_nil_bytes]; done) | (simp [eq_nil_bytes]; done)), H', ⟨by have := HJ5.out; have := HK2.out; have := HJ20.out; have := HK4.out; first | omega | exact Nat.le_refl _⟩, ⟨by exact vL HO_406001.out⟩, ⟨by exact vL HO_414001.out⟩, ⟨by exact bL BK405.out⟩, ⟨by exact bL BK413.out⟩, ⟨hL HB.out⟩⟩
      rw [if_neg c54] at H
      have c54b0 : decide (t424 < 0) = false := decide_eq_false c54
      clear c54
      by_cases c55 : t421 ≥ (x406001_2.length : Int)
      ·rw [if_pos c55] at H
       have c55b0 : decide ((x406001_2.length : Int) ≤ t421) = true := decide_eq_true c55
       clear c55
       have H' := Aside0.mk H
       clear H
       have hnb56 := NB405_413.out
       have hnc56 := NB413_405.out
       have hcz57_0 : w50.cell? ⟨gb405, 0, none⟩ = some (.int .i64 x406000_2) := (blk_cell BK405.out 0).trans rfl
       have hcz57_1 : w50.cell? ⟨gb405, 1, none⟩ = some (.slice Ao22 x406001_2.length co22) := (blk_cell BK405.out 1).trans rfl
       have hfz57_0 := blk_frozen BK405.out 0
       have hfz57_1 := blk_frozen BK405.out 1
       go_wp2
       go_meet
       case rel => exact ⟨_, (true), (by first | rfl | (simp; done) | (simp [*]; done) | (simp [ne_nil_bytes]; done) | (simp [eq_nil_bytes]; done)), H', ⟨by have := HJ5.out; have := HK2.out; have := HJ20.out; have := HK4.out; first | omega | exact Nat.le_refl _⟩, ⟨by exact vL HO_406001.out⟩, ⟨by exact vL HO_414001.out⟩, ⟨by exact bL BK405.out⟩, ⟨by exact bL BK413.out⟩, ⟨hL HB.out⟩⟩
      rw [if_neg c55] at H
      have c55b0 : decide ((x406001_2.length : Int) ≤ t421) = false := decide_eq_false c55
      clear c55
      have H' := Aside0.mk H
      clear H
      have hnb58 := NB405_413.out
      have hnc58 := NB413_405.out
      have hcz59_0 : w50.cell? ⟨gb405, 0, none⟩ = some (.int .i64 x406000_2) := (blk_cell BK405.out 0).trans rfl
      have hcz59_1 : w50.cell? ⟨gb405, 1, none⟩ = some (.slice Ao22 x406001_2.length co22) := (blk_cell BK405.out 1).trans rfl
      have hfz59_0 := blk_frozen BK405.out 0
      have hfz59_1 := blk_frozen BK405.out 1
      have hcz60_0 : w50.cell? ⟨gb413, 0, none⟩ = some (.int .i64 t408) := (blk_cell BK413.out 0).trans rfl
      have hcz60_1 : w50.cell? ⟨gb413, 1, none⟩ = some (.slice Ao28 t409.length co28) := (blk_cell BK413.out 1).trans rfl
      have hfz60_0 := blk_frozen BK413.out 0
      have hfz60_1 := blk_frozen BK413.out 1
      go_wp2
      go_meet
      case rel => exact ⟨_, (decide (t424 ≥ (t409.length : Int))), (by first | rfl | (simp; done) | (simp [*]; done) | (simp [ne_nil_bytes]; done) | (simp [eq_nil_bytes]; done)), H', ⟨by have := HJ5.out; have := HK2.out; have := HJ20.out; have := HK4.out; first | omega | exact Nat.le_refl _⟩, ⟨by exact vL HO_406001.out⟩, ⟨by exact vL HO_414001.out⟩, ⟨by exact bL BK405.out⟩, ⟨by exact bL BK413.out⟩, ⟨hL HB.out⟩⟩
     as_aux_lemma =>
      clear HC46
      try clear c1
      try clear c2
      try clear p2
      try clear c3
      try clear c4
      try clear p4
      try clear q4
      try clear hx4
      try clear c5
      try clear p6
      try clear c7
      try clear c8
      try clear c8b0
      try clear c8b0z
      try clear c8b1
      try clear c8b1z
      try clear c9
      try clear c11
      try clear c11b0
      try clear c11b0z
      try clear c11b1
      try clear c11b1z
      try clear c15
      try clear c16
      try clear c16b0
      try clear c16b0z
      try clear c17
      try clear c17b0
      try clear c17b0z
      try clear c18
      try clear c18b0
      try clear c18b0z
      try clear c18b1
      try clear c18b1z
      try clear c20
      try clear c20b0
      try clear c20b0z
      try clear c20b1
      try clear c20b1z
      try clear c30
      try clear c30b0
      try clear c30b0z
      try clear c31
      try clear c31b0
      try clear c31b0z
      try clear c32
      try clear c35
      try clear c36
      try clear c36b0
      try clear c36b0z
      try clear c37
      try clear c37b0
      try clear c37b0z
      try clear p40
      try clear q40
      try clear hx40
      try clear c41
      try clear c41b0
      try clear c41b0z
      try clear p41
      try clear q41
      try clear hx41
      try clear c42
      try clear c42b0
      try clear c42b0z
      try clear p42
      try clear q42
      try clear hx42
      try clear c43
      try clear c43b0
      try clear c43b0z
      try clear c43b1
      try clear c43b1z
      try clear c51
      try clear c52
      try clear c53
      try clear c53b0
      try clear c53b0z
      try clear c54
      try clear c54b0
      try clear c54b0z
      try clear c55
      try clear c55b0
      try clear c55b0z
      try clear c56
      try clear c58
      try clear hcz14_0
      try clear hcz14_1
      try clear hcz33_0
      try clear hcz33_1
      try clear hcz34_0
      try clear hcz34_1
      try clear hcz57_0
      try clear hcz57_1
      try clear hcz59_0
      try clear hcz59_1
      try clear hcz60_0
      try clear hcz60_1
      try clear hfz14_0
      try clear hfz14_1
      try clear hfz33_0
      try clear hfz33_1
      try clear hfz34_0
      try clear hfz34_1
      try clear hfz57_0
      try clear hfz57_1
      try clear hfz59_0
      try clear hfz59_1
      try clear hfz60_0
      try clear hfz60_1
      try clear hx406_0
      try clear hx406_1
      try clear hx406_2
      try clear hx407_0
      try clear hx407_1
      try clear hx407_2
      try clear hx414_0
      try clear hx414_1
      try clear hx414_2
      try clear hx415_0
      try clear hx415_1
      try clear hx415_2
      try clear hx416_0
      try clear hx416_1
      try clear hx416_2
      try clear hx419_0
      try clear hx420_0
      try clear hx423_0
      try clear p2
      try clear p4
      try clear p40
      try clear p406
      try clear p407
      try clear p414
      try clear p415
      try clear p416
      try clear p419
      try clear p420
      try clear p423
      try clear p6
      try clear q4
      try clear q40
      try clear q406
      try clear q407
      try clear q414
      try clear q415
      try clear q416
      try clear q419
      try clear q420
      try clear q423
      obtain ⟨kq, x169_45, rfl, HA, HJ45, HO_406001, HO_414001, BK405, BK413, HB⟩ := hcut
      rcases kq with _ | kj45
      ·exact absurd HA.out (by simp [shelfmarklaw12_AtlasTiles.j4])
      have H := HA.out
      clear HA
      simp only [shelfmarklaw12_AtlasTiles.j4] at H
      by_cases c61 : x169_45 = true
      ·subst c61
       have H1 : (some false) = some r := by rw [if_pos rfl] at H; exact H
       clear H
       have H := H1
       clear H1
       obtain rfl := Option.some.inj H
       exact absurd HLAW.out (by decide)
      replace c61 := Bool.eq_false_iff.mpr c61
      subst c61
      have H1 : (if 0 ≤ t421 then (if t421 < (x406001_2.length : Int) then (if 0 ≤ x9_2 then (if x9_2 < (l1.length : Int) then (if ((rd_T40 l1 x9_2).f0) = 3 then (shelfmarklaw12_AtlasTiles.j5 kj45 l1 l2 x9_2 t417 x14_4 t424 ((rd_T46 x406001_2 t421).f1) (t421 == t417) x406000_2 x406001_2 t408 t409) else (shelfmarklaw12_AtlasTiles.j5 kj45 l1 l2 x9_2 t417 x14_4 t424 ((rd_T46 x406001_2 t421).f1) false x406000_2 x406001_2 t408 t409)) else (none)) else (none)) else (none)) else (none)) = some r := by rw [if_neg (show ¬ (false = true) by decide)] at H; exact H
      clear H
      have H := H1
      clear H1
      by_cases c62 : 0 ≤ t421
      rotate_left
      ·rw [if_neg c62] at H
       exact absurd H (by simp)
      rw [if_pos c62] at H
      have c62b0 : decide (0 ≤ t421) = true := decide_eq_true c62
      clear c62
      by_cases c63 : t421 < (x406001_2.length : Int)
      rotate_left
      ·rw [if_neg c63] at H
       exact absurd H (by simp)
      rw [if_pos c63] at H
      have c63b0 : decide (t421 < (x406001_2.length : Int)) = true := decide_eq_true c63
      clear c63
      have HC64 := Aside0.mk H
      clear H
      have hnb65 := NB405_413.out
      have hnc65 := NB413_405.out
      have hcz66_0 : wc.cell? ⟨gb405, 0, none⟩ = some (.int .i64 x406000_2) := (blk_cell BK405.out 0).trans rfl
      have hcz66_1 : wc.cell? ⟨gb405, 1, none⟩ = some (.slice Ao22 x406001_2.length co22) := (blk_cell BK405.out 1).trans rfl
      have hfz66_0 := blk_frozen BK405.out 0
      have hfz66_1 := blk_frozen BK405.out 1
      have p426 : 0 ≤ (t421 : Int) := of_decide_eq_true (by first | (with_reducible assumption) | assumption)
      have q426 : t421 < (x406001_2.length : Int) := of_decide_eq_true (by first | (with_reducible assumption) | assumption)
      obtain ⟨ad426, e426, hx426_0, hx426_1⟩ := at_T46 (Kd.V_reads' HO_406001.out).2.2 t421 p426 q426
      cases e426
      replace p426 := eq_true p426
      replace q426 := eq_true q426
      go_upto_region 30 with (fail)
      go_cut [186] (fun v186 wc => ∃ (kq : Nat) (x186_63 : Bool), v186 = .bool x186_63 ∧ Aside0 (shelfmarklaw12_AtlasTiles.j5 kq l1 l2 x9_2 t417 x14_4 t424 ((rd_T46 x406001_2 t421).f1) x186_63 x406000_2 x406001_2 t408 t409 = some r) ∧ Aside0 (kq ≤ kj45) ∧ Aside0 (Kd.V k46 46 wc w.heap.size (fun k_ => k_ ≠ gb405 ∧ k_ ≠ gb413) (.slice (some ad426) x406001_2.length co22) x406001_2) ∧ Aside0 (Kd.V k46 46 wc w.heap.size (fun k_ => k_ ≠ gb405 ∧ k_ ≠ gb413) (.slice Ao28 t409.length co28) t409) ∧ Aside0 (wc.heap[gb405]? = some (.cells #[.int .i64 x406000_2, (.slice (some ad426) x406001_2.length co22)] 24 (0, 0))) ∧ Aside0 (wc.heap[gb413]? = some (.cells #[.int .i64 t408, (.slice Ao28 t409.length co28)] 24 (0, 0))) ∧ Aside0 (Below w.heap.size w wc))
      case first =>
       have H := HC64.out
       clear HC64
       by_cases c67 : 0 ≤ x9_2
       rotate_left
       ·rw [if_neg c67] at H
        exact absurd H (by simp)
       rw [if_pos c67] at H
       have c67b0 : decide (0 ≤ x9_2) = true := decide_eq_true c67
       clear c67
       (first | rw [c67b0] | (simp only [i64_w, i32_w]; rw [c67b0]) | skip)
       by_cases c68 : x9_2 < (l1.length : Int)
       rotate_left
       ·rw [if_neg c68] at H
        exact absurd H (by simp)
       rw [if_pos c68] at H
       have c68b0 : decide (x9_2 < (l1.length : Int)) = true := decide_eq_true c68
       clear c68
       by_cases c69 : ((rd_T40 l1 x9_2).f0) = 3
       rotate_left
       ·rw [if_neg c69] at H
        have c69b0 : (((rd_T40 l1 x9_2).f0) == 3) = false := beq_eq_false_iff_ne.mpr c69
        have c69b1 : (((rd_T40 l1 x9_2).f0) != 3) = true := bne_iff_ne.mpr c69
        have H' := Aside0.mk H
        clear H
        have p427 : 0 ≤ (x9_2 : Int) := of_decide_eq_true (by first | (with_reducible assumption) | assumption)
        have q427 : x9_2 < (l1.length : Int) := of_decide_eq_true (by first | (with_reducible assumption) | assumption)
        obtain ⟨ad427, e427, hx427_0, hx427_1, hx427_2⟩ := at_T40 HR1.out x9_2 p427 q427
        obtain rfl : ad406 = ad427 := (by injection e427)
        replace hx427_0 := (HB.out.cell (World.block_lt_of_cell? w _ hx427_0)).trans hx427_0
        replace hx427_1 := (HB.out.cell (World.block_lt_of_cell? w _ hx427_1)).trans hx427_1
        replace hx427_2 := (HB.out.cell (World.block_lt_of_cell? w _ hx427_2)).trans hx427_2
        replace p427 := eq_true p427
        replace q427 := eq_true q427
        go_wp2
        go_meet
        case rel => exact ⟨_, (false), (by first | rfl | (simp; done) | (simp [*]; done) | (simp [ne_nil_bytes]; done) | (simp [eq_nil_bytes]; done)), H', ⟨by have := HJ5.out; have := HK2.out; have := HJ20.out; have := HK4.out; have := HJ45.out; first | omega | exact Nat.le_refl _⟩, ⟨by exact vL HO_406001.out⟩, ⟨by exact vL HO_414001.out⟩, ⟨by exact bL BK405.out⟩, ⟨by exact bL BK413.out⟩, ⟨hL HB.out⟩⟩
       rw [if_pos c69] at H
       have c69b0 : (((rd_T40 l1 x9_2).f0) == 3) = true := beq_iff_eq.mpr c69
       have c69b1 : (((rd_T40 l1 x9_2).f0) != 3) = false := bne_eq_false_iff_eq.mpr c69
       clear c69
       have H' := Aside0.mk H
       clear H
       have p427 : 0 ≤ (x9_2 : Int) := of_decide_eq_true (by first | (with_reducible assumption) | assumption)
       have q427 : x9_2 < (l1.length : Int) := of_decide_eq_true (by first | (with_reducible assumption) | assumption)
       obtain ⟨ad427, e427, hx427_0, hx427_1, hx427_2⟩ := at_T40 HR1.out x9_2 p427 q427
       obtain rfl : ad406 = ad427 := (by injection e427)
       replace hx427_0 := (HB.out.cell (World.block_lt_of_cell? w _ hx427_0)).trans hx427_0
       replace hx427_1 := (HB.out.cell (World.block_lt_of_cell? w _ hx427_1)).trans hx427_1
       replace hx427_2 := (HB.out.cell (World.block_lt_of_cell? w _ hx427_2)).trans hx427_2
       replace p427 := eq_true p427
       replace q427 := eq_true q427
       go_wp2
       go_meet
       case rel => exact ⟨_, ((t421 == t417)), (by first | rfl | (simp; done) | (simp [*]; done) | (simp [ne_nil_bytes]; done) | (simp [eq_nil_bytes]; done)), H', ⟨by have := HJ5.out; have := HK2.out; have := HJ20.out; have := HK4.out; have := HJ45.out; first | omega | exact Nat.le_refl _⟩, ⟨by exact vL HO_406001.out⟩, ⟨by exact vL HO_414001.out⟩, ⟨by exact bL BK405.out⟩, ⟨by exact bL BK413.out⟩, ⟨hL HB.out⟩⟩
      as_aux_lemma =>
       clear HC64
       try clear c1
       try clear c2
       try clear p2
       try clear c3
       try clear c4
       try clear p4
       try clear q4
       try clear hx4
       try clear c5
       try clear c6
       try clear p6
       try clear c7
       try clear c8
       try clear c8b0
       try clear c8b0z
       try clear c8b1
       try clear c8b1z
       try clear c9
       try clear c11
       try clear c11b0
       try clear c11b0z
       try clear c11b1
       try clear c11b1z
       try clear c15
       try clear c16
       try clear c16b0
       try clear c16b0z
       try clear c17
       try clear c17b0
       try clear c17b0z
       try clear c18
       try clear c18b0
       try clear c18b0z
       try clear c18b1
       try clear c18b1z
       try clear c20
       try clear c20b0
       try clear c20b0z
       try clear c20b1
       try clear c20b1z
       try clear c30
       try clear c30b0
       try clear c30b0z
       try clear c31
       try clear c31b0
       try clear c31b0z
       try clear c32
       try clear c35
       try clear c36
       try clear c36b0
       try clear c36b0z
       try clear c37
       try clear c37b0
       try clear c37b0z
       try clear p40
       try clear q40
       try clear hx40
       try clear c41
       try clear c41b0
       try clear c41b0z
       try clear p41
       try clear q41
       try clear hx41
       try clear c42
       try clear c42b0
       try clear c42b0z
       try clear p42
       try clear q42
       try clear hx42
       try clear c43
       try clear c43b0
       try clear c43b0z
       try clear c43b1
       try clear c43b1z
       try clear c51
       try clear c52
       try clear c53
       try clear c53b0
       try clear c53b0z
       try clear c54
       try clear c54b0
       try clear c54b0z
       try clear c55
       try clear c55b0
       try clear c55b0z
       try clear c56
       try clear c58
       try clear c61
       try clear c62
       try clear c62b0
       try clear c62b0z
       try clear c63
       try clear c63b0
       try clear c63b0z
       try clear c65
       try clear c67
       try clear c67b0
       try clear c67b0z
       try clear c68
       try clear c68b0
       try clear c68b0z
       try clear c69
       try clear c69b0
       try clear c69b0z
       try clear c69b1
       try clear c69b1z
       try clear hcz14_0
       try clear hcz14_1
       try clear hcz33_0
       try clear hcz33_1
       try clear hcz34_0
       try clear hcz34_1
       try clear hcz57_0
       try clear hcz57_1
       try clear hcz59_0
       try clear hcz59_1
       try clear hcz60_0
       try clear hcz60_1
       try clear hcz66_0
       try clear hcz66_1
       try clear hfz14_0
       try clear hfz14_1
       try clear hfz33_0
       try clear hfz33_1
       try clear hfz34_0
       try clear hfz34_1
       try clear hfz57_0
       try clear hfz57_1
       try clear hfz59_0
       try clear hfz59_1
       try clear hfz60_0
       try clear hfz60_1
       try clear hfz66_0
       try clear hfz66_1
       try clear hx406_0
       try clear hx406_1
       try clear hx406_2
       try clear hx407_0
       try clear hx407_1
       try clear hx407_2
       try clear hx414_0
       try clear hx414_1
       try clear hx414_2
       try clear hx415_0
       try clear hx415_1
       try clear hx415_2
       try clear hx416_0
       try clear hx416_1
       try clear hx416_2
       try clear hx419_0
       try clear hx420_0
       try clear hx423_0
       try clear hx426_0
       try clear hx426_1
       try clear hx427_0
       try clear hx427_1
       try clear hx427_2
       try clear p2
       try clear p4
       try clear p40
       try clear p406
       try clear p407
       try clear p41
       try clear p414
       try clear p415
       try clear p416
       try clear p419
       try clear p42
       try clear p420
       try clear p423
       try clear p426
       try clear p427
       try clear p6
       try clear q4
       try clear q40
       try clear q406
       try clear q407
       try clear q41
       try clear q414
       try clear q415
       try clear q416
       try clear q419
       try clear q42
       try clear q420
       try clear q423
       try clear q426
       try clear q427
       obtain ⟨kq, x186_63, rfl, HA, HJ63, HO_406001, HO_414001, BK405, BK413, HB⟩ := hcut
       rcases kq with _ | kj63
       ·exact absurd HA.out (by simp [shelfmarklaw12_AtlasTiles.j5])
       have H := HA.out
       clear HA
       simp only [shelfmarklaw12_AtlasTiles.j5] at H
       have HC70 := Aside0.mk H
       clear H
       go_upto_if 186 with (fail)
       go_cut [19] (fun v19 wc => ∃ (kq : Nat) (x19_69 : Int), v19 = .int .i64 x19_69 ∧ Aside0 (shelfmarklaw12_AtlasTiles.j6 kq l1 l2 x9_2 t417 x14_4 t424 x19_69 x406000_2 x406001_2 t408 t409 = some r) ∧ Aside0 (kq ≤ kj63) ∧ Aside0 (Kd.V k46 46 wc w.heap.size (fun k_ => k_ ≠ gb405 ∧ k_ ≠ gb413) (.slice (some ad426) x406001_2.length co22) x406001_2) ∧ Aside0 (Kd.V k46 46 wc w.heap.size (fun k_ => k_ ≠ gb405 ∧ k_ ≠ gb413) (.slice Ao28 t409.length co28) t409) ∧ Aside0 (wc.heap[gb405]? = some (.cells #[.int .i64 x406000_2, (.slice (some ad426) x406001_2.length co22)] 24 (0, 0))) ∧ Aside0 (wc.heap[gb413]? = some (.cells #[.int .i64 t408, (.slice Ao28 t409.length co28)] 24 (0, 0))) ∧ Aside0 (Below w.heap.size w wc))
       case first =>
        have H := HC70.out
        clear HC70
        by_cases c71 : x186_63 = true
        rotate_left
        ·replace c71 := Bool.eq_false_iff.mpr c71
         subst c71
         have H1 : (shelfmarklaw12_AtlasTiles.j6 kj63 l1 l2 x9_2 t417 x14_4 t424 ((rd_T46 x406001_2 t421).f1) x406000_2 x406001_2 t408 t409) = some r := by rw [if_neg (show ¬ (false = true) by decide)] at H; exact H
         clear H
         have H := H1
         clear H1
         have H' := Aside0.mk H
         clear H
         go_wp2
         go_meet
         case rel => exact ⟨_, (((rd_T46 x406001_2 t421).f1)), (by first | rfl | (simp; done) | (simp [*]; done) | (simp [ne_nil_bytes]; done) | (simp [eq_nil_bytes]; done)), H', ⟨by have := HJ5.out; have := HK2.out; have := HJ20.out; have := HK4.out; have := HJ45.out; have := HJ63.out; first | omega | exact Nat.le_refl _⟩, ⟨by exact vL HO_406001.out⟩, ⟨by exact vL HO_414001.out⟩, ⟨by exact bL BK405.out⟩, ⟨by exact bL BK413.out⟩, ⟨hL HB.out⟩⟩
        subst c71
        have H1 : (if 0 ≤ x9_2 then (if x9_2 < (l1.length : Int) then (shelfmarklaw12_AtlasTiles.j6 kj63 l1 l2 x9_2 t417 x14_4 t424 ((rd_T40 l1 x9_2).f2) x406000_2 x406001_2 t408 t409) else (none)) else (none)) = some r := by rw [if_pos rfl] at H; exact H
        clear H
        have H := H1
        clear H1
        by_cases c72 : 0 ≤ x9_2
        rotate_left
        ·rw [if_neg c72] at H
         exact absurd H (by simp)
        rw [if_pos c72] at H
        have c72b0 : decide (0 ≤ x9_2) = true := decide_eq_true c72
        clear c72
        (first | rw [c72b0] | (simp only [i64_w, i32_w]; rw [c72b0]) | skip)
        by_cases c73 : x9_2 < (l1.length : Int)
        rotate_left
        ·rw [if_neg c73] at H
         exact absurd H (by simp)
        rw [if_pos c73] at H
        have c73b0 : decide (x9_2 < (l1.length : Int)) = true := decide_eq_true c73
        clear c73
        have H' := Aside0.mk H
        clear H
        have p428 : 0 ≤ (x9_2 : Int) := of_decide_eq_true (by first | (with_reducible assumption) | assumption)
        have q428 : x9_2 < (l1.length : Int) := of_decide_eq_true (by first | (with_reducible assumption) | assumption)
        obtain ⟨ad428, e428, hx428_0, hx428_1, hx428_2⟩ := at_T40 HR1.out x9_2 p428 q428
        obtain rfl : ad406 = ad428 := (by injection e428)
        replace hx428_0 := (HB.out.cell (World.block_lt_of_cell? w _ hx428_0)).trans hx428_0
        replace hx428_1 := (HB.out.cell (World.block_lt_of_cell? w _ hx428_1)).trans hx428_1
        replace hx428_2 := (HB.out.cell (World.block_lt_of_cell? w _ hx428_2)).trans hx428_2
        replace p428 := eq_true p428
        replace q428 := eq_true q428
        go_wp2
        go_meet
        case rel => exact ⟨_, ((rd_T40 l1 x9_2).f2), (by first | rfl | (simp; done) | (simp [*]; done) | (simp [ne_nil_bytes]; done) | (simp [eq_nil_bytes]; done)), H', ⟨by have := HJ5.out; have := HK2.out; have := HJ20.out; have := HK4.out; have := HJ45.out; have := HJ63.out; first | omega | exact Nat.le_refl _⟩, ⟨by exact vL HO_406001.out⟩, ⟨by exact vL HO_414001.out⟩, ⟨by exact bL BK405.out⟩, ⟨by exact bL BK413.out⟩, ⟨hL HB.out⟩⟩
       as_aux_lemma =>
        clear HC70
        try clear c1
        try clear c2
        try clear p2
        try clear c3
        try clear c4
        try clear p4
        try clear q4
        try clear hx4
        try clear c5
        try clear c6
        try clear p6
        try clear c7
        try clear c8
        try clear c8b0
        try clear c8b0z
        try clear c8b1
        try clear c8b1z
        try clear c9
        try clear c11
        try clear c11b0
        try clear c11b0z
        try clear c11b1
        try clear c11b1z
        try clear c15
        try clear c16
        try clear c16b0
        try clear c16b0z
        try clear c17
        try clear c17b0
        try clear c17b0z
        try clear c18
        try clear c18b0
        try clear c18b0z
        try clear c18b1
        try clear c18b1z
        try clear c20
        try clear c20b0
        try clear c20b0z
        try clear c20b1
        try clear c20b1z
        try clear c30
        try clear c30b0
        try clear c30b0z
        try clear c31
        try clear c31b0
        try clear c31b0z
        try clear c32
        try clear c35
        try clear c36
        try clear c36b0
        try clear c36b0z
        try clear c37
        try clear c37b0
        try clear c37b0z
        try clear p40
        try clear q40
        try clear hx40
        try clear c41
        try clear c41b0
        try clear c41b0z
        try clear p41
        try clear q41
        try clear hx41
        try clear c42
        try clear c42b0
        try clear c42b0z
        try clear p42
        try clear q42
        try clear hx42
        try clear c43
        try clear c43b0
        try clear c43b0z
        try clear c43b1
        try clear c43b1z
        try clear c51
        try clear c52
        try clear c53
        try clear c53b0
        try clear c53b0z
        try clear c54
        try clear c54b0
        try clear c54b0z
        try clear c55
        try clear c55b0
        try clear c55b0z
        try clear c56
        try clear c58
        try clear c61
        try clear c62
        try clear c62b0
        try clear c62b0z
        try clear c63
        try clear c63b0
        try clear c63b0z
        try clear c65
        try clear c67
        try clear c67b0
        try clear c67b0z
        try clear c68
        try clear c68b0
        try clear c68b0z
        try clear c69
        try clear c69b0
        try clear c69b0z
        try clear c69b1
        try clear c69b1z
        try clear c71
        try clear c72
        try clear c72b0
        try clear c72b0z
        try clear c73
        try clear c73b0
        try clear c73b0z
        try clear hcz14_0
        try clear hcz14_1
        try clear hcz33_0
        try clear hcz33_1
        try clear hcz34_0
        try clear hcz34_1
        try clear hcz57_0
        try clear hcz57_1
        try clear hcz59_0
        try clear hcz59_1
        try clear hcz60_0
        try clear hcz60_1
        try clear hcz66_0
        try clear hcz66_1
        try clear hfz14_0
        try clear hfz14_1
        try clear hfz33_0
        try clear hfz33_1
        try clear hfz34_0
        try clear hfz34_1
        try clear hfz57_0
        try clear hfz57_1
        try clear hfz59_0
        try clear hfz59_1
        try clear hfz60_0
        try clear hfz60_1
        try clear hfz66_0
        try clear hfz66_1
        try clear hx406_0
        try clear hx406_1
        try clear hx406_2
        try clear hx407_0
        try clear hx407_1
        try clear hx407_2
        try clear hx414_0
        try clear hx414_1
        try clear hx414_2
        try clear hx415_0
        try clear hx415_1
        try clear hx415_2
        try clear hx416_0
        try clear hx416_1
        try clear hx416_2
        try clear hx419_0
        try clear hx420_0
        try clear hx423_0
        try clear hx426_0
        try clear hx426_1
        try clear hx427_0
        try clear hx427_1
        try clear hx427_2
        try clear hx428_0
        try clear hx428_1
        try clear hx428_2
        try clear p2
        try clear p4
        try clear p40
        try clear p406
        try clear p407
        try clear p41
        try clear p414
        try clear p415
        try clear p416
        try clear p419
        try clear p42
        try clear p420
        try clear p423
        try clear p426
        try clear p427
        try clear p428
        try clear p6
        try clear q4
        try clear q40
        try clear q406
        try clear q407
        try clear q41
        try clear q414
        try clear q415
        try clear q416
        try clear q419
        try clear q42
        try clear q420
        try clear q423
        try clear q426
        try clear q427
        try clear q428
        obtain ⟨kq, x19_69, rfl, HA, HJ69, HO_406001, HO_414001, BK405, BK413, HB⟩ := hcut
        rcases kq with _ | kj69
        ·exact absurd HA.out (by simp [shelfmarklaw12_AtlasTiles.j6])
        have H := HA.out
        clear HA
        simp only [shelfmarklaw12_AtlasTiles.j6] at H
        by_cases c74 : 0 ≤ t424
        rotate_left
        ·rw [if_neg c74] at H
         exact absurd H (by simp)
        rw [if_pos c74] at H
        have c74b0 : decide (0 ≤ t424) = true := decide_eq_true c74
        clear c74
        by_cases c75 : t424 < (t409.length : Int)
        rotate_left
        ·rw [if_neg c75] at H
         exact absurd H (by simp)
        rw [if_pos c75] at H
        have c75b0 : decide (t424 < (t409.length : Int)) = true := decide_eq_true c75
        clear c75
        by_cases c76 : ((rd_T46 t409 t424).f1) = x19_69
        rotate_left
        ·rw [if_neg c76] at H
         have c76b0 : (((rd_T46 t409 t424).f1) == x19_69) = false := beq_eq_false_iff_ne.mpr c76
         have c76b1 : (((rd_T46 t409 t424).f1) != x19_69) = true := bne_iff_ne.mpr c76
         obtain rfl := Option.some.inj H
         exact absurd HLAW.out (by decide)
        rw [if_pos c76] at H
        have c76b0 : (((rd_T46 t409 t424).f1) == x19_69) = true := beq_iff_eq.mpr c76
        have c76b1 : (((rd_T46 t409 t424).f1) != x19_69) = false := bne_eq_false_iff_eq.mpr c76
        clear c76
        have H' := Aside0.mk H
        clear H
        have hnb77 := NB413_405.out
        have hnc77 := NB405_413.out
        have hcz78_0 : wc.cell? ⟨gb413, 0, none⟩ = some (.int .i64 t408) := (blk_cell BK413.out 0).trans rfl
        have hcz78_1 : wc.cell? ⟨gb413, 1, none⟩ = some (.slice Ao28 t409.length co28) := (blk_cell BK413.out 1).trans rfl
        have hfz78_0 := blk_frozen BK413.out 0
        have hfz78_1 := blk_frozen BK413.out 1
        have p429 : 0 ≤ (t424 : Int) := of_decide_eq_true (by first | (with_reducible assumption) | assumption)
        have q429 : t424 < (t409.length : Int) := of_decide_eq_true (by first | (with_reducible assumption) | assumption)
        obtain ⟨ad429, e429, hx429_0, hx429_1⟩ := at_T46 (Kd.V_reads' HO_414001.out).2.2 t424 p429 q429
        cases e429
        replace p429 := eq_true p429
        replace q429 := eq_true q429
        go_wp2
        go_loopg [20, 21] kj69 (fun kq v20 v21 w' => ∃ (x20_8 : Int) (x21_8 : Int), v20 = .int .i64 x20_8 ∧ v21 = .int .i64 x21_8 ∧ Aside0 (shelfmarklaw12_AtlasTiles.l2 kq l1 l2 x9_2 t417 x14_4 x20_8 x21_8 x406000_2 x406001_2 t408 t409 = some r) ∧ Aside0 (kq ≤ kj69) ∧ Aside0 (Kd.V k46 46 w' w.heap.size (fun k_ => k_ ≠ gb405 ∧ k_ ≠ gb413) (.slice (some ad426) x406001_2.length co22) x406001_2) ∧ Aside0 (Kd.V k46 46 w' w.heap.size (fun k_ => k_ ≠ gb405 ∧ k_ ≠ gb413) (.slice (some ad429) t409.length co28) t409) ∧ Aside0 (w'.heap[gb405]? = some (.cells #[.int .i64 x406000_2, (.slice (some ad426) x406001_2.length co22)] 24 (0, 0))) ∧ Aside0 (w'.heap[gb413]? = some (.cells #[.int .i64 t408, (.slice (some ad429) t409.length co28)] 24 (0, 0))) ∧ Aside0 (Below w.heap.size w w'))
        case atStart => exact ⟨(0), (0), (by first | rfl | (simp; done) | (simp [*]; done) | (simp [ne_nil_bytes]; done) | (simp [eq_nil_bytes]; done)), (by first | rfl | (simp; done) | (simp [*]; done) | (simp [ne_nil_bytes]; done) | (simp [eq_nil_bytes]; done)), H', ⟨Nat.le_refl _⟩, ⟨by exact vL HO_406001.out⟩, ⟨by exact vL HO_414001.out⟩, ⟨by exact bL BK405.out⟩, ⟨by exact bL BK413.out⟩, ⟨hL HB.out⟩⟩
        as_aux_lemma =>
         clear H'
         try clear c1
         try clear c2
         try clear p2
         try clear c3
         try clear c4
         try clear p4
         try clear q4
         try clear hx4
         try clear c5
         try clear c6
         try clear p6
         try clear c7
         try clear c8
         try clear c8b0
         try clear c8b0z
         try clear c8b1
         try clear c8b1z
         try clear c9
         try clear c11
         try clear c11b0
         try clear c11b0z
         try clear c11b1
         try clear c11b1z
         try clear c15
         try clear c16
         try clear c16b0
         try clear c16b0z
         try clear c17
         try clear c17b0
         try clear c17b0z
         try clear c18
         try clear c18b0
         try clear c18b0z
         try clear c18b1
         try clear c18b1z
         try clear c20
         try clear c20b0
         try clear c20b0z
         try clear c20b1
         try clear c20b1z
         try clear c30
         try clear c30b0
         try clear c30b0z
         try clear c31
         try clear c31b0
         try clear c31b0z
         try clear c32
         try clear c35
         try clear c36
         try clear c36b0
         try clear c36b0z
         try clear c37
         try clear c37b0
         try clear c37b0z
         try clear p40
         try clear q40
         try clear hx40
         try clear c41
         try clear c41b0
         try clear c41b0z
         try clear p41
         try clear q41
         try clear hx41
         try clear c42
         try clear c42b0
         try clear c42b0z
         try clear p42
         try clear q42
         try clear hx42
         try clear c43
         try clear c43b0
         try clear c43b0z
         try clear c43b1
         try clear c43b1z
         try clear c51
         try clear c52
         try clear c53
         try clear c53b0
         try clear c53b0z
         try clear c54
         try clear c54b0
         try clear c54b0z
         try clear c55
         try clear c55b0
         try clear c55b0z
         try clear c56
         try clear c58
         try clear c61
         try clear c62
         try clear c62b0
         try clear c62b0z
         try clear c63
         try clear c63b0
         try clear c63b0z
         try clear c65
         try clear c67
         try clear c67b0
         try clear c67b0z
         try clear c68
         try clear c68b0
         try clear c68b0z
         try clear c69
         try clear c69b0
         try clear c69b0z
         try clear c69b1
         try clear c69b1z
         try clear c71
         try clear c72
         try clear c72b0
         try clear c72b0z
         try clear c73
         try clear c73b0
         try clear c73b0z
         try clear c74
         try clear c74b0
         try clear c74b0z
         try clear c75
         try clear c75b0
         try clear c75b0z
         try clear c76
         try clear c76b0
         try clear c76b0z
         try clear c76b1
         try clear c76b1z
         try clear c77
         try clear hcz14_0
         try clear hcz14_1
         try clear hcz33_0
         try clear hcz33_1
         try clear hcz34_0
         try clear hcz34_1
         try clear hcz57_0
         try clear hcz57_1
         try clear hcz59_0
         try clear hcz59_1
         try clear hcz60_0
         try clear hcz60_1
         try clear hcz66_0
         try clear hcz66_1
         try clear hcz78_0
         try clear hcz78_1
         try clear hfz14_0
         try clear hfz14_1
         try clear hfz33_0
         try clear hfz33_1
         try clear hfz34_0
         try clear hfz34_1
         try clear hfz57_0
         try clear hfz57_1
         try clear hfz59_0
         try clear hfz59_1
         try clear hfz60_0
         try clear hfz60_1
         try clear hfz66_0
         try clear hfz66_1
         try clear hfz78_0
         try clear hfz78_1
         try clear hx406_0
         try clear hx406_1
         try clear hx406_2
         try clear hx407_0
         try clear hx407_1
         try clear hx407_2
         try clear hx414_0
         try clear hx414_1
         try clear hx414_2
         try clear hx415_0
         try clear hx415_1
         try clear hx415_2
         try clear hx416_0
         try clear hx416_1
         try clear hx416_2
         try clear hx419_0
         try clear hx420_0
         try clear hx423_0
         try clear hx426_0
         try clear hx426_1
         try clear hx427_0
         try clear hx427_1
         try clear hx427_2
         try clear hx428_0
         try clear hx428_1
         try clear hx428_2
         try clear hx429_0
         try clear hx429_1
         try clear p2
         try clear p4
         try clear p40
         try clear p406
         try clear p407
         try clear p41
         try clear p414
         try clear p415
         try clear p416
         try clear p419
         try clear p42
         try clear p420
         try clear p423
         try clear p426
         try clear p427
         try clear p428
         try clear p429
         try clear p6
         try clear q4
         try clear q40
         try clear q406
         try clear q407
         try clear q41
         try clear q414
         try clear q415
         try clear q416
         try clear q419
         try clear q42
         try clear q420
         try clear q423
         try clear q426
         try clear q427
         try clear q428
         try clear q429
         obtain ⟨x20_8, x21_8, rfl, rfl, HA, HK8, HO_406001, HO_414001, BK405, BK413, HB⟩ := hrel
         rcases gk with _ | k8
         ·exact absurd HA.out (by simp [shelfmarklaw12_AtlasTiles.l2])
         have H := HA.out
         clear HA
         simp only [shelfmarklaw12_AtlasTiles.l2] at H
         by_cases c79 : x21_8 < (t409.length : Int)
         rotate_left
         ·rw [if_neg c79] at H
          have c79b0 : decide (x21_8 < (t409.length : Int)) = false := decide_eq_false c79
          clear c79
          by_cases c132 : x20_8 = 1
          rotate_left
          ·rw [if_neg c132] at H
           have c132b0 : (x20_8 == 1) = false := beq_eq_false_iff_ne.mpr c132
           have c132b1 : (x20_8 != 1) = true := bne_iff_ne.mpr c132
           obtain rfl := Option.some.inj H
           exact absurd HLAW.out (by decide)
          rw [if_pos c132] at H
          have c132b0 : (x20_8 == 1) = true := beq_iff_eq.mpr c132
          have c132b1 : (x20_8 != 1) = false := bne_eq_false_iff_eq.mpr c132
          clear c132
          have H' := Aside0.mk H
          clear H
          have hnb133 := NB413_405.out
          have hnc133 := NB405_413.out
          have hcz134_0 : wr.cell? ⟨gb413, 0, none⟩ = some (.int .i64 t408) := (blk_cell BK413.out 0).trans rfl
          have hcz134_1 : wr.cell? ⟨gb413, 1, none⟩ = some (.slice (some ad429) t409.length co28) := (blk_cell BK413.out 1).trans rfl
          have hfz134_0 := blk_frozen BK413.out 0
          have hfz134_1 := blk_frozen BK413.out 1
          go_wp2
          go_roundg k8
          case measure => have := HJ5.out; have := HK2.out; have := HJ20.out; have := HK4.out; have := HJ45.out; have := HJ63.out; have := HJ69.out; have := HK8.out; omega
          case rel => exact ⟨(wrap64 (x14_4 + 1)), (by first | rfl | (simp; done) | (simp [*]; done) | (simp [ne_nil_bytes]; done) | (simp [eq_nil_bytes]; done)), H', ⟨by have := HJ5.out; have := HK2.out; have := HJ20.out; have := HK4.out; have := HJ45.out; have := HJ63.out; have := HJ69.out; have := HK8.out; omega⟩, ⟨by exact vL HO_406001.out⟩, ⟨by exact vL HO_414001.out⟩, ⟨by exact bL BK405.out⟩, ⟨by exact bL BK413.out⟩, ⟨hL HB.out⟩⟩
         rw [if_pos c79] at H
         have c79b0 : decide (x21_8 < (t409.length : Int)) = true := decide_eq_true c79
         clear c79
         replace H := Option.bind_eq_some_iff.mp H
         obtain ⟨⟨t430, t431, t432⟩, A800, H⟩ := H
         replace H : (if t432 = true then (if 0 ≤ x14_4 then (if x14_4 < (l2.length : Int) then (if ((Op.bytesLess ((rdOf ByteArray.empty l2 x14_4).toList) t430.toList) = true) then (shelfmarklaw12_AtlasTiles.l2 k8 l1 l2 x9_2 t417 x14_4 x20_8 (wrap64 (x21_8 + 1)) x406000_2 x406001_2 t408 t409) else (if t431.toList = ([] : List UInt8) then (shelfmarklaw12_AtlasTiles.l2 k8 l1 l2 x9_2 t417 x14_4 (wrap64 (x20_8 + 1)) (wrap64 (x21_8 + 1)) x406000_2 x406001_2 t408 t409) else (if (Op.bytesLess ((rdOf ByteArray.empty l2 x14_4).toList) t431.toList) = true then (shelfmarklaw12_AtlasTiles.l2 k8 l1 l2 x9_2 t417 x14_4 (wrap64 (x20_8 + 1)) (wrap64 (x21_8 + 1)) x406000_2 x406001_2 t408 t409) else (shelfmarklaw12_AtlasTiles.l2 k8 l1 l2 x9_2 t417 x14_4 x20_8 (wrap64 (x21_8 + 1)) x406000_2 x406001_2 t408 t409)))) else (none)) else (none)) else (shelfmarklaw12_AtlasTiles.l2 k8 l1 l2 x9_2 t417 x14_4 x20_8 (wrap64 (x21_8 + 1)) x406000_2 x406001_2 t408 t409)) = some r := H
         have A80 := Aside0.mk A800
         clear A800
         by_cases c81 : t432 = true
         rotate_left
         ·replace c81 := Bool.eq_false_iff.mpr c81
          subst c81
          have H1 : (shelfmarklaw12_AtlasTiles.l2 k8 l1 l2 x9_2 t417 x14_4 x20_8 (wrap64 (x21_8 + 1)) x406000_2 x406001_2 t408 t409) = some r := by rw [if_neg (show ¬ (false = true) by decide)] at H; exact H
          clear H
          have H := H1
          clear H1
          have H' := Aside0.mk H
          clear H
          have hnb123 := NB413_405.out
          have hnc123 := NB405_413.out
          have hcz124_0 : wr.cell? ⟨gb413, 0, none⟩ = some (.int .i64 t408) := (blk_cell BK413.out 0).trans rfl
          have hcz124_1 : wr.cell? ⟨gb413, 1, none⟩ = some (.slice (some ad429) t409.length co28) := (blk_cell BK413.out 1).trans rfl
          have hfz124_0 := blk_frozen BK413.out 0
          have hfz124_1 := blk_frozen BK413.out 1
          try go_wp2_with (first | ((with_reducible refine gate_callee (f := 13) rfl ?_); refine goesL_ (some 210) rfl rfl Try.func13 (by as_aux_lemma => kernel_rfl) rfl #[.agg #[.int .i64 t408, .slice (some ad429) t409.length co28], .int .i64 x21_8] rfl (by (try simp only [List.map_toArray, List.map_cons, List.map_nil]); first | done | rfl | (simp only [List.length_drop, List.length_take]; rfl)) ?_; (with_reducible refine (atlas_Of.calls k8 t408 _ _ t409 x21_8 t430 t431 false _ ?side1 ?side2 A80.out).mono ?_); (case side1 => repeat (first | exact (Kd.V_reads' HO_414001.out).2.2 | (with_reducible refine Kd.C_alloc ?_ _) | (with_reducible refine Kd.C_drewN ?_ _) | (with_reducible refine Kd.C_drew ?_))); (case side2 => exact (Kd.V_reads' HO_414001.out).2.1); rintro e w125 ⟨rfl, hb⟩; refine ⟨_, rfl, ?_⟩; have n0_ := Aside0.mk (Kd.V_below (vL HO_406001.out) hb); have n1_ := Aside0.mk (Kd.V_below (vL HO_414001.out) hb); have n2_ := Aside0.mk (blk_below BK405.out hb); have n3_ := Aside0.mk (blk_below BK413.out hb); have n4_ := Aside0.mk (below_step (hL HB.out) hb); clear HO_406001; clear HO_414001; clear BK405; clear BK413; clear HB; have HO_406001 := n0_; have HO_414001 := n1_; have BK405 := n2_; have BK413 := n3_; have HB := n4_; clear n0_ n1_ n2_ n3_ n4_; (try clear hb); (try clear hb2); (try clear hk); (try clear hi)) | ((with_reducible refine gate_dst (N := 22) rfl ?_); (try (refine gate_guard (by rfl) ?_; dsimp only)); refine box_event ?hg (N := 22) ?hd (cs := #[.string (⟨#[]⟩ : ByteArray), .string (⟨#[]⟩ : ByteArray)]) (t := 30) ?hr ?_; (case hd => rfl); (case hg => rfl); (case hr => first | (go_simp; done) | (go_simp; rfl)); intro gb433 hg w126 hbox hb; have n0_ := Aside0.mk (Kd.V_below (Kd.V_elderB (vL HO_406001.out) gb433 (Nat.le_of_eq hg.symm)) hb); have n1_ := Aside0.mk (Kd.V_below (Kd.V_elderB (vL HO_414001.out) gb433 (Nat.le_of_eq hg.symm)) hb); have n2_ := Aside0.mk (blk_below BK405.out hb); have n3_ := Aside0.mk (blk_below BK413.out hb); have n4_ := Aside0.mk (below_step (hL HB.out) hb); have n5_ := Aside0.mk (hbox); have n6_ := Above.mk ((by rw [hg]; exact (below_size (hL HB.out)) : w.heap.size ≤ gb433)); have n7_ := Above.mk ((by rw [hg]; exact (below_size (hL HB.out)) : w.heap.size ≤ gb433)); have n8_ := Aside0.mk ((by rw [hg]; exact Nat.ne_of_lt (blk_lt (g := gb405) (o := .cells #[.int .i64 x406000_2, .slice (some ad426) x406001_2.length co22] 24 (0, 0)) (bL BK405.out)) : gb405 ≠ gb433)); have n9_ := Aside0.mk ((by rw [hg]; exact Nat.ne_of_gt (blk_lt (g := gb405) (o := .cells #[.int .i64 x406000_2, .slice (some ad426) x406001_2.length co22] 24 (0, 0)) (bL BK405.out)) : gb433 ≠ gb405)); have n10_ := Aside0.mk ((by rw [hg]; exact Nat.ne_of_lt (blk_lt (g := gb413) (o := .cells #[.int .i64 t408, .slice (some ad429) t409.length co28] 24 (0, 0)) (bL BK413.out)) : gb413 ≠ gb433)); have n11_ := Aside0.mk ((by rw [hg]; exact Nat.ne_of_gt (blk_lt (g := gb413) (o := .cells #[.int .i64 t408, .slice (some ad429) t409.length co28] 24 (0, 0)) (bL BK413.out)) : gb433 ≠ gb413)); clear HO_406001; clear HO_414001; clear BK405; clear BK413; clear HB; have HO_406001 := n0_; have HO_414001 := n1_; have BK405 := n2_; have BK413 := n3_; have HB := n4_; have BK433 := n5_; have GW433 := n6_; have GE433 := n7_; have NB405_433 := n8_; have NB433_405 := n9_; have NB413_433 := n10_; have NB433_413 := n11_; clear n0_ n1_ n2_ n3_ n4_ n5_ n6_ n7_ n8_ n9_ n10_ n11_; clear hb hbox hg; have hnb127 := NB433_405.out; have hnc127 := NB405_433.out; have hnb128 := NB433_413.out; have hnc128 := NB413_433.out; have hcz129_0 : w126.cell? ⟨gb433, 0, none⟩ = some (.string (⟨#[]⟩ : ByteArray)) := (blk_cell BK433.out 0).trans rfl; have hcz129_1 : w126.cell? ⟨gb433, 1, none⟩ = some (.string (⟨#[]⟩ : ByteArray)) := (blk_cell BK433.out 1).trans rfl; have hfz129_0 := blk_frozen BK433.out 0; have hfz129_1 := blk_frozen BK433.out 1))
          have n0_ : Aside0 (Kd.V k46 46 ((w126.setCell ⟨gb433, 0, none⟩ (.string t430)).setCell ⟨gb433, 1, none⟩ (.string t431)) w.heap.size (fun k_ => k_ ≠ gb405 ∧ k_ ≠ gb413 ∧ k_ ≠ gb433) (.slice (some ad426) x406001_2.length co22) x406001_2) := ⟨by (with_reducible repeat (first | apply Kd.V_alloc | apply Kd.V_drewN | apply Kd.V_drew)); exact Kd.V_mono (Kd.V_far (p := ⟨gb433, 1, none⟩) (Kd.V_far (p := ⟨gb433, 0, none⟩) (Kd.V_mono HO_406001.out (fun k_ hk => (⟨hk, hk.2⟩ : _ ∧ k_ ≠ gb433))) (fun _ hk => hk.2) (.string t430)) (fun _ hk => hk.2) (.string t431)) (fun _ hk => ⟨hk.1.1.1, ⟨hk.1.1.2, hk.1.2⟩⟩)⟩
          have n1_ : Aside0 (Kd.V k46 46 ((w126.setCell ⟨gb433, 0, none⟩ (.string t430)).setCell ⟨gb433, 1, none⟩ (.string t431)) w.heap.size (fun k_ => k_ ≠ gb405 ∧ k_ ≠ gb413 ∧ k_ ≠ gb433) (.slice (some ad429) t409.length co28) t409) := ⟨by (with_reducible repeat (first | apply Kd.V_alloc | apply Kd.V_drewN | apply Kd.V_drew)); exact Kd.V_mono (Kd.V_far (p := ⟨gb433, 1, none⟩) (Kd.V_far (p := ⟨gb433, 0, none⟩) (Kd.V_mono HO_414001.out (fun k_ hk => (⟨hk, hk.2⟩ : _ ∧ k_ ≠ gb433))) (fun _ hk => hk.2) (.string t430)) (fun _ hk => hk.2) (.string t431)) (fun _ hk => ⟨hk.1.1.1, ⟨hk.1.1.2, hk.1.2⟩⟩)⟩
          have n2_ : Aside0 (((w126.setCell ⟨gb433, 0, none⟩ (.string t430)).setCell ⟨gb433, 1, none⟩ (.string t431)).heap[gb405]? = some (.cells #[.int .i64 x406000_2, .slice (some ad426) x406001_2.length co22] 24 (0, 0))) := ⟨by (with_reducible repeat (first | refine blk_drewN ?_ _ | refine blk_drew ?_ | refine blk_alloc ?_ _)); refine blk_far ?_ NB405_433.out _; (with_reducible repeat (first | refine blk_drewN ?_ _ | refine blk_drew ?_ | refine blk_alloc ?_ _)); refine blk_far ?_ NB405_433.out _; exact bL BK405.out⟩
          have n3_ : Aside0 (((w126.setCell ⟨gb433, 0, none⟩ (.string t430)).setCell ⟨gb433, 1, none⟩ (.string t431)).heap[gb413]? = some (.cells #[.int .i64 t408, .slice (some ad429) t409.length co28] 24 (0, 0))) := ⟨by (with_reducible repeat (first | refine blk_drewN ?_ _ | refine blk_drew ?_ | refine blk_alloc ?_ _)); refine blk_far ?_ NB413_433.out _; (with_reducible repeat (first | refine blk_drewN ?_ _ | refine blk_drew ?_ | refine blk_alloc ?_ _)); refine blk_far ?_ NB413_433.out _; exact bL BK413.out⟩
          have n4_ : Aside0 (((w126.setCell ⟨gb433, 0, none⟩ (.string t430)).setCell ⟨gb433, 1, none⟩ (.string t431)).heap[gb433]? = some (.cells #[.string t430, .string t431] 30 (0, 0))) := ⟨by (with_reducible repeat (first | refine blk_drewN ?_ _ | refine blk_drew ?_ | refine blk_alloc ?_ _)); refine blk_put (cs := #[.string t430, .string (⟨#[]⟩ : ByteArray)]) ?_ 1 _ rfl; (with_reducible repeat (first | refine blk_drewN ?_ _ | refine blk_drew ?_ | refine blk_alloc ?_ _)); refine blk_put (cs := #[.string (⟨#[]⟩ : ByteArray), .string (⟨#[]⟩ : ByteArray)]) ?_ 0 _ rfl; exact bL BK433.out⟩
          have n5_ : Aside0 (Below w.heap.size w ((w126.setCell ⟨gb433, 0, none⟩ (.string t430)).setCell ⟨gb433, 1, none⟩ (.string t431))) := ⟨hL HB.out⟩
          (try clear HO_406001)
          (try clear HO_414001)
          (try clear BK405)
          (try clear BK413)
          (try clear BK433)
          (try clear HB)
          generalize ((w126.setCell ⟨gb433, 0, none⟩ (.string t430)).setCell ⟨gb433, 1, none⟩ (.string t431)) = w130 at n0_ n1_ n2_ n3_ n4_ n5_ ⊢
          have HO_406001 := n0_
          have HO_414001 := n1_
          have BK405 := n2_
          have BK413 := n3_
          have BK433 := n4_
          have HB := n5_
          clear n0_ n1_ n2_ n3_ n4_ n5_
          have n0_ := Aside0.mk (Kd.V_drew HO_406001.out)
          have n1_ := Aside0.mk (Kd.V_drew HO_414001.out)
          have n2_ := Aside0.mk (blk_drew BK405.out)
          have n3_ := Aside0.mk (blk_drew BK413.out)
          have n4_ := Aside0.mk (blk_drew BK433.out)
          have n5_ := Aside0.mk (below_drew1 HB.out)
          clear HO_406001
          clear HO_414001
          clear BK405
          clear BK413
          clear BK433
          clear HB
          have HO_406001 := n0_
          have HO_414001 := n1_
          have BK405 := n2_
          have BK413 := n3_
          have BK433 := n4_
          have HB := n5_
          clear n0_ n1_ n2_ n3_ n4_ n5_
          refine start_ (n := 24) (S := fun w' => True) (ds := []) #[false, false, false, false, false, false, false, false, false, false, false, false, false, false, false, false, false, false, false, false, false, false, false, false] (by as_aux_lemma => kernel_rfl) rfl rfl trivial (fun hHeld => ?_); refine with_tabW shelfmarklaw12_AtlasTiles.tab39 shelfmarklaw12_AtlasTiles.bits39 (fun HT_ HW_ => ?_)
          generalize w130.drew = w131 at HO_406001 HO_414001 BK405 BK413 BK433 HB hHeld ⊢
          refine pure_ (i := 0) (N := some 213) (v := ?_) (a' := ?_) #[true, false, false, false, false, false, false, false, false, false, false, false, false, false, false, false, false, false, false, false, false, false, false, false] rfl rfl (any_of HT_.out (by as_aux_lemma => kernel_rfl)) (fun _ _ _ h => h) (Or.inl ⟨by rfl, ?_⟩) ?_ ?_
          rotate_left
          ·intro w'
           go_simp
           with_reducible rfl
          rotate_left
          ·simp only [Act.put, sT, sZ, sS, i64_w, i32_w]
           rfl
          refine pure_ (i := 1) (N := some 214) (v := ?_) (a' := ?_) #[true, true, false, false, false, false, false, false, false, false, false, false, false, false, false, false, false, false, false, false, false, false, false, false] rfl rfl (any_of HT_.out (by as_aux_lemma => kernel_rfl)) (fun _ _ _ h => h) (Or.inl ⟨by rfl, ?_⟩) ?_ ?_
          rotate_left
          ·intro w'
           go_simp
           with_reducible rfl
          rotate_left
          ·simp only [Act.put, sT, sZ, sS, i64_w, i32_w]
           rfl
          refine pure_ (i := 2) (N := some 215) (v := undef) (a' := ?_) #[true, true, true, false, false, false, false, false, false, false, false, false, false, false, false, false, false, false, false, false, false, false, false, false] rfl rfl (any_of HT_.out (by as_aux_lemma => kernel_rfl)) (fun _ _ _ h => h) (Or.inr ⟨by rfl, rfl⟩) ?_ ?_
          rotate_left
          ·simp only [Act.put, sT, sZ, sS, i64_w, i32_w]
           rfl
          refine pure_ (i := 3) (N := some 216) (v := undef) (a' := ?_) #[true, true, true, true, false, false, false, false, false, false, false, false, false, false, false, false, false, false, false, false, false, false, false, false] rfl rfl (any_of HT_.out (by as_aux_lemma => kernel_rfl)) (fun _ _ _ h => h) (Or.inr ⟨by rfl, rfl⟩) ?_ ?_
          rotate_left
          ·simp only [Act.put, sT, sZ, sS, i64_w, i32_w]
           rfl
          refine pure_ (i := 4) (N := some 217) (v := undef) (a' := ?_) #[true, true, true, true, true, false, false, false, false, false, false, false, false, false, false, false, false, false, false, false, false, false, false, false] rfl rfl (any_of HT_.out (by as_aux_lemma => kernel_rfl)) (fun _ _ _ h => h) (Or.inr ⟨by rfl, rfl⟩) ?_ ?_
          rotate_left
          ·simp only [Act.put, sT, sZ, sS, i64_w, i32_w]
           rfl
          refine pure_ (i := 5) (N := some 218) (v := undef) (a' := ?_) #[true, true, true, true, true, true, false, false, false, false, false, false, false, false, false, false, false, false, false, false, false, false, false, false] rfl rfl (any_of HT_.out (by as_aux_lemma => kernel_rfl)) (fun _ _ _ h => h) (Or.inr ⟨by rfl, rfl⟩) ?_ ?_
          rotate_left
          ·simp only [Act.put, sT, sZ, sS, i64_w, i32_w]
           rfl
          refine pure_ (i := 6) (N := some 219) (v := undef) (a' := ?_) #[true, true, true, true, true, true, true, false, false, false, false, false, false, false, false, false, false, false, false, false, false, false, false, false] rfl rfl (any_of HT_.out (by as_aux_lemma => kernel_rfl)) (fun _ _ _ h => h) (Or.inr ⟨by rfl, rfl⟩) ?_ ?_
          rotate_left
          ·simp only [Act.put, sT, sZ, sS, i64_w, i32_w]
           rfl
          refine pure_ (i := 7) (N := some 220) (v := undef) (a' := ?_) #[true, true, true, true, true, true, true, true, false, false, false, false, false, false, false, false, false, false, false, false, false, false, false, false] rfl rfl (any_of HT_.out (by as_aux_lemma => kernel_rfl)) (fun _ _ _ h => h) (Or.inr ⟨by rfl, rfl⟩) ?_ ?_
          rotate_left
          ·simp only [Act.put, sT, sZ, sS, i64_w, i32_w]
           rfl
          refine pure_ (i := 8) (N := some 221) (v := undef) (a' := ?_) #[true, true, true, true, true, true, true, true, true, false, false, false, false, false, false, false, false, false, false, false, false, false, false, false] rfl rfl (any_of HT_.out (by as_aux_lemma => kernel_rfl)) (fun _ _ _ h => h) (Or.inr ⟨by rfl, rfl⟩) ?_ ?_
          rotate_left
          ·simp only [Act.put, sT, sZ, sS, i64_w, i32_w]
           rfl
          refine pure_ (i := 9) (N := some 222) (v := ?_) (a' := ?_) #[true, true, true, true, true, true, true, true, true, true, false, false, false, false, false, false, false, false, false, false, false, false, false, false] rfl rfl (any_of HT_.out (by as_aux_lemma => kernel_rfl)) (fun _ _ _ h => h) (Or.inl ⟨by rfl, ?_⟩) ?_ ?_
          rotate_left
          ·intro w'
           go_simp
           with_reducible rfl
          rotate_left
          ·simp only [Act.put, sT, sZ, sS, i64_w, i32_w]
           rfl
          refine pure_ (i := 10) (N := some 223) (v := ?_) (a' := ?_) #[true, true, true, true, true, true, true, true, true, true, true, false, false, false, false, false, false, false, false, false, false, false, false, false] rfl rfl (any_of HT_.out (by as_aux_lemma => kernel_rfl)) (fun _ _ _ h => h) (Or.inl ⟨by rfl, ?_⟩) ?_ ?_
          rotate_left
          ·intro w'
           go_simp
           with_reducible rfl
          rotate_left
          ·simp only [Act.put, sT, sZ, sS, i64_w, i32_w]
           rfl
          refine pure_ (i := 11) (N := some 224) (v := undef) (a' := ?_) #[true, true, true, true, true, true, true, true, true, true, true, true, false, false, false, false, false, false, false, false, false, false, false, false] rfl rfl (any_of HT_.out (by as_aux_lemma => kernel_rfl)) (fun _ _ _ h => h) (Or.inr ⟨by rfl, rfl⟩) ?_ ?_
          rotate_left
          ·simp only [Act.put, sT, sZ, sS, i64_w, i32_w]
           rfl
          refine pure_ (i := 12) (N := some 225) (v := undef) (a' := ?_) #[true, true, true, true, true, true, true, true, true, true, true, true, true, false, false, false, false, false, false, false, false, false, false, false] rfl rfl (any_of HT_.out (by as_aux_lemma => kernel_rfl)) (fun _ _ _ h => h) (Or.inr ⟨by rfl, rfl⟩) ?_ ?_
          rotate_left
          ·simp only [Act.put, sT, sZ, sS, i64_w, i32_w]
           rfl
          refine pure_ (i := 13) (N := some 226) (v := undef) (a' := ?_) #[true, true, true, true, true, true, true, true, true, true, true, true, true, true, false, false, false, false, false, false, false, false, false, false] rfl rfl (any_of HT_.out (by as_aux_lemma => kernel_rfl)) (fun _ _ _ h => h) (Or.inr ⟨by rfl, rfl⟩) ?_ ?_
          rotate_left
          ·simp only [Act.put, sT, sZ, sS, i64_w, i32_w]
           rfl
          refine pure_ (i := 14) (N := some 227) (v := undef) (a' := ?_) #[true, true, true, true, true, true, true, true, true, true, true, true, true, true, true, false, false, false, false, false, false, false, false, false] rfl rfl (any_of HT_.out (by as_aux_lemma => kernel_rfl)) (fun _ _ _ h => h) (Or.inr ⟨by rfl, rfl⟩) ?_ ?_
          rotate_left
          ·simp only [Act.put, sT, sZ, sS, i64_w, i32_w]
           rfl
          refine pure_ (i := 15) (N := some 228) (v := undef) (a' := ?_) #[true, true, true, true, true, true, true, true, true, true, true, true, true, true, true, true, false, false, false, false, false, false, false, false] rfl rfl (any_of HT_.out (by as_aux_lemma => kernel_rfl)) (fun _ _ _ h => h) (Or.inr ⟨by rfl, rfl⟩) ?_ ?_
          rotate_left
          ·simp only [Act.put, sT, sZ, sS, i64_w, i32_w]
           rfl
          refine pure_ (i := 16) (N := some 229) (v := undef) (a' := ?_) #[true, true, true, true, true, true, true, true, true, true, true, true, true, true, true, true, true, false, false, false, false, false, false, false] rfl rfl (any_of HT_.out (by as_aux_lemma => kernel_rfl)) (fun _ _ _ h => h) (Or.inr ⟨by rfl, rfl⟩) ?_ ?_
          rotate_left
          ·simp only [Act.put, sT, sZ, sS, i64_w, i32_w]
           rfl
          refine pure_ (i := 17) (N := some 230) (v := undef) (a' := ?_) #[true, true, true, true, true, true, true, true, true, true, true, true, true, true, true, true, true, true, false, false, false, false, false, false] rfl rfl (any_of HT_.out (by as_aux_lemma => kernel_rfl)) (fun _ _ _ h => h) (Or.inr ⟨by rfl, rfl⟩) ?_ ?_
          rotate_left
          ·simp only [Act.put, sT, sZ, sS, i64_w, i32_w]
           rfl
          refine pure_ (i := 18) (N := some 231) (v := undef) (a' := ?_) #[true, true, true, true, true, true, true, true, true, true, true, true, true, true, true, true, true, true, true, false, false, false, false, false] rfl rfl (any_of HT_.out (by as_aux_lemma => kernel_rfl)) (fun _ _ _ h => h) (Or.inr ⟨by rfl, rfl⟩) ?_ ?_
          rotate_left
          ·simp only [Act.put, sT, sZ, sS, i64_w, i32_w]
           rfl
          refine pure_ (i := 19) (N := some 232) (v := undef) (a' := ?_) #[true, true, true, true, true, true, true, true, true, true, true, true, true, true, true, true, true, true, true, true, false, false, false, false] rfl rfl (any_of HT_.out (by as_aux_lemma => kernel_rfl)) (fun _ _ _ h => h) (Or.inr ⟨by rfl, rfl⟩) ?_ ?_
          rotate_left
          ·simp only [Act.put, sT, sZ, sS, i64_w, i32_w]
           rfl
          refine pure_ (i := 20) (N := some 233) (v := undef) (a' := ?_) #[true, true, true, true, true, true, true, true, true, true, true, true, true, true, true, true, true, true, true, true, true, false, false, false] rfl rfl (any_of HT_.out (by as_aux_lemma => kernel_rfl)) (fun _ _ _ h => h) (Or.inr ⟨by rfl, rfl⟩) ?_ ?_
          rotate_left
          ·simp only [Act.put, sT, sZ, sS, i64_w, i32_w]
           rfl
          refine pure_ (i := 21) (N := some 234) (v := undef) (a' := ?_) #[true, true, true, true, true, true, true, true, true, true, true, true, true, true, true, true, true, true, true, true, true, true, false, false] rfl rfl (any_of HT_.out (by as_aux_lemma => kernel_rfl)) (fun _ _ _ h => h) (Or.inr ⟨by rfl, rfl⟩) ?_ ?_
          rotate_left
          ·simp only [Act.put, sT, sZ, sS, i64_w, i32_w]
           rfl
          refine pure_ (i := 22) (N := some 235) (v := undef) (a' := ?_) #[true, true, true, true, true, true, true, true, true, true, true, true, true, true, true, true, true, true, true, true, true, true, true, false] rfl rfl (any_of HT_.out (by as_aux_lemma => kernel_rfl)) (fun _ _ _ h => h) (Or.inr ⟨by rfl, rfl⟩) ?_ ?_
          rotate_left
          ·simp only [Act.put, sT, sZ, sS, i64_w, i32_w]
           rfl
          refine pure_ (i := 23) (N := some 236) (v := ?_) (a' := ?_) #[true, true, true, true, true, true, true, true, true, true, true, true, true, true, true, true, true, true, true, true, true, true, true, true] rfl rfl (any_of HT_.out (by as_aux_lemma => kernel_rfl)) (fun _ _ _ h => h) (Or.inl ⟨by rfl, ?_⟩) ?_ ?_
          rotate_left
          ·intro w'
           go_simp
           with_reducible rfl
          rotate_left
          ·simp only [Act.put, sT, sZ, sS, i64_w, i32_w]
           rfl
          refine done_ (done_of HT_.out (by as_aux_lemma => kernel_rfl)) ?_
          try go_wp2
          go_roundg k8
          case measure => have := HJ5.out; have := HK2.out; have := HJ20.out; have := HK4.out; have := HJ45.out; have := HJ63.out; have := HJ69.out; have := HK8.out; omega
          case rel => exact ⟨(x20_8), (wrap64 (x21_8 + 1)), (by first | rfl | (simp; done) | (simp [*]; done) | (simp [ne_nil_bytes]; done) | (simp [eq_nil_bytes]; done)), (by first | rfl | (simp; done) | (simp [*]; done) | (simp [ne_nil_bytes]; done) | (simp [eq_nil_bytes]; done)), H', ⟨by have := HJ5.out; have := HK2.out; have := HJ20.out; have := HK4.out; have := HJ45.out; have := HJ63.out; have := HJ69.out; have := HK8.out; omega⟩, ⟨by (with_reducible repeat (first | apply Kd.V_alloc | apply Kd.V_drewN | apply Kd.V_drew)); exact Kd.V_mono HO_406001.out (fun _ hk => ⟨hk.1, hk.2.1⟩)⟩, ⟨by (with_reducible repeat (first | apply Kd.V_alloc | apply Kd.V_drewN | apply Kd.V_drew)); exact Kd.V_mono HO_414001.out (fun _ hk => ⟨hk.1, hk.2.1⟩)⟩, ⟨by exact bL BK405.out⟩, ⟨by exact bL BK413.out⟩, ⟨hL HB.out⟩⟩
         subst c81
         have H1 : (if 0 ≤ x14_4 then (if x14_4 < (l2.length : Int) then (if ((Op.bytesLess ((rdOf ByteArray.empty l2 x14_4).toList) t430.toList) = true) then (shelfmarklaw12_AtlasTiles.l2 k8 l1 l2 x9_2 t417 x14_4 x20_8 (wrap64 (x21_8 + 1)) x406000_2 x406001_2 t408 t409) else (if t431.toList = ([] : List UInt8) then (shelfmarklaw12_AtlasTiles.l2 k8 l1 l2 x9_2 t417 x14_4 (wrap64 (x20_8 + 1)) (wrap64 (x21_8 + 1)) x406000_2 x406001_2 t408 t409) else (if (Op.bytesLess ((rdOf ByteArray.empty l2 x14_4).toList) t431.toList) = true then (shelfmarklaw12_AtlasTiles.l2 k8 l1 l2 x9_2 t417 x14_4 (wrap64 (x20_8 + 1)) (wrap64 (x21_8 + 1)) x406000_2 x406001_2 t408 t409) else (shelfmarklaw12_AtlasTiles.l2 k8 l1 l2 x9_2 t417 x14_4 x20_8 (wrap64 (x21_8 + 1)) x406000_2 x406001_2 t408 t409)))) else (none)) else (none)) = some r := by rw [if_pos rfl] at H; exact H
         clear H
         have H := H1
         clear H1
         by_cases c82 : 0 ≤ x14_4
         rotate_left
         ·rw [if_neg c82] at H
          exact absurd H (by simp)
         rw [if_pos c82] at H
         have c82b0 : decide (0 ≤ x14_4) = true := decide_eq_true c82
         clear c82
         by_cases c83 : x14_4 < (l2.length : Int)
         rotate_left
         ·rw [if_neg c83] at H
          exact absurd H (by simp)
         rw [if_pos c83] at H
         have c83b0 : decide (x14_4 < (l2.length : Int)) = true := decide_eq_true c83
         clear c83
         by_cases c84 : ((Op.bytesLess ((rdOf ByteArray.empty l2 x14_4).toList) t430.toList) = true)
         ·rw [if_pos c84] at H
          have c84b0 : (Op.bytesLess ((rdOf ByteArray.empty l2 x14_4).toList) t430.toList) = true := c84
          clear c84
          have H' := Aside0.mk H
          clear H
          have hnb85 := NB413_405.out
          have hnc85 := NB405_413.out
          have hcz86_0 : wr.cell? ⟨gb413, 0, none⟩ = some (.int .i64 t408) := (blk_cell BK413.out 0).trans rfl
          have hcz86_1 : wr.cell? ⟨gb413, 1, none⟩ = some (.slice (some ad429) t409.length co28) := (blk_cell BK413.out 1).trans rfl
          have hfz86_0 := blk_frozen BK413.out 0
          have hfz86_1 := blk_frozen BK413.out 1
          try go_wp2_with (first | ((with_reducible refine gate_callee (f := 13) rfl ?_); refine goesL_ (some 210) rfl rfl Try.func13 (by as_aux_lemma => kernel_rfl) rfl #[.agg #[.int .i64 t408, .slice (some ad429) t409.length co28], .int .i64 x21_8] rfl (by (try simp only [List.map_toArray, List.map_cons, List.map_nil]); first | done | rfl | (simp only [List.length_drop, List.length_take]; rfl)) ?_; (with_reducible refine (atlas_Of.calls k8 t408 _ _ t409 x21_8 t430 t431 true _ ?side1 ?side2 A80.out).mono ?_); (case side1 => repeat (first | exact (Kd.V_reads' HO_414001.out).2.2 | (with_reducible refine Kd.C_alloc ?_ _) | (with_reducible refine Kd.C_drewN ?_ _) | (with_reducible refine Kd.C_drew ?_))); (case side2 => exact (Kd.V_reads' HO_414001.out).2.1); rintro e w87 ⟨rfl, hb⟩; refine ⟨_, rfl, ?_⟩; have n0_ := Aside0.mk (Kd.V_below (vL HO_406001.out) hb); have n1_ := Aside0.mk (Kd.V_below (vL HO_414001.out) hb); have n2_ := Aside0.mk (blk_below BK405.out hb); have n3_ := Aside0.mk (blk_below BK413.out hb); have n4_ := Aside0.mk (below_step (hL HB.out) hb); clear HO_406001; clear HO_414001; clear BK405; clear BK413; clear HB; have HO_406001 := n0_; have HO_414001 := n1_; have BK405 := n2_; have BK413 := n3_; have HB := n4_; clear n0_ n1_ n2_ n3_ n4_; (try clear hb); (try clear hb2); (try clear hk); (try clear hi)) | ((with_reducible refine gate_dst (N := 22) rfl ?_); (try (refine gate_guard (by rfl) ?_; dsimp only)); refine box_event ?hg (N := 22) ?hd (cs := #[.string (⟨#[]⟩ : ByteArray), .string (⟨#[]⟩ : ByteArray)]) (t := 30) ?hr ?_; (case hd => rfl); (case hg => rfl); (case hr => first | (go_simp; done) | (go_simp; rfl)); intro gb433 hg w88 hbox hb; have n0_ := Aside0.mk (Kd.V_below (Kd.V_elderB (vL HO_406001.out) gb433 (Nat.le_of_eq hg.symm)) hb); have n1_ := Aside0.mk (Kd.V_below (Kd.V_elderB (vL HO_414001.out) gb433 (Nat.le_of_eq hg.symm)) hb); have n2_ := Aside0.mk (blk_below BK405.out hb); have n3_ := Aside0.mk (blk_below BK413.out hb); have n4_ := Aside0.mk (below_step (hL HB.out) hb); have n5_ := Aside0.mk (hbox); have n6_ := Above.mk ((by rw [hg]; exact (below_size (hL HB.out)) : w.heap.size ≤ gb433)); have n7_ := Above.mk ((by rw [hg]; exact (below_size (hL HB.out)) : w.heap.size ≤ gb433)); have n8_ := Aside0.mk ((by rw [hg]; exact Nat.ne_of_lt (blk_lt (g := gb405) (o := .cells #[.int .i64 x406000_2, .slice (some ad426) x406001_2.length co22] 24 (0, 0)) (bL BK405.out)) : gb405 ≠ gb433)); have n9_ := Aside0.mk ((by rw [hg]; exact Nat.ne_of_gt (blk_lt (g := gb405) (o := .cells #[.int .i64 x406000_2, .slice (some ad426) x406001_2.length co22] 24 (0, 0)) (bL BK405.out)) : gb433 ≠ gb405)); have n10_ := Aside0.mk ((by rw [hg]; exact Nat.ne_of_lt (blk_lt (g := gb413) (o := .cells #[.int .i64 t408, .slice (some ad429) t409.length co28] 24 (0, 0)) (bL BK413.out)) : gb413 ≠ gb433)); have n11_ := Aside0.mk ((by rw [hg]; exact Nat.ne_of_gt (blk_lt (g := gb413) (o := .cells #[.int .i64 t408, .slice (some ad429) t409.length co28] 24 (0, 0)) (bL BK413.out)) : gb433 ≠ gb413)); clear HO_406001; clear HO_414001; clear BK405; clear BK413; clear HB; have HO_406001 := n0_; have HO_414001 := n1_; have BK405 := n2_; have BK413 := n3_; have HB := n4_; have BK433 := n5_; have GW433 := n6_; have GE433 := n7_; have NB405_433 := n8_; have NB433_405 := n9_; have NB413_433 := n10_; have NB433_413 := n11_; clear n0_ n1_ n2_ n3_ n4_ n5_ n6_ n7_ n8_ n9_ n10_ n11_; clear hb hbox hg; have hnb89 := NB433_405.out; have hnc89 := NB405_433.out; have hnb90 := NB433_413.out; have hnc90 := NB413_433.out; have hcz91_0 : w88.cell? ⟨gb433, 0, none⟩ = some (.string (⟨#[]⟩ : ByteArray)) := (blk_cell BK433.out 0).trans rfl; have hcz91_1 : w88.cell? ⟨gb433, 1, none⟩ = some (.string (⟨#[]⟩ : ByteArray)) := (blk_cell BK433.out 1).trans rfl; have hfz91_0 := blk_frozen BK433.out 0; have hfz91_1 := blk_frozen BK433.out 1))
          have n0_ : Aside0 (Kd.V k46 46 ((w88.setCell ⟨gb433, 0, none⟩ (.string t430)).setCell ⟨gb433, 1, none⟩ (.string t431)) w.heap.size (fun k_ => k_ ≠ gb405 ∧ k_ ≠ gb413 ∧ k_ ≠ gb433) (.slice (some ad426) x406001_2.length co22) x406001_2) := ⟨by (with_reducible repeat (first | apply Kd.V_alloc | apply Kd.V_drewN | apply Kd.V_drew)); exact Kd.V_mono (Kd.V_far (p := ⟨gb433, 1, none⟩) (Kd.V_far (p := ⟨gb433, 0, none⟩) (Kd.V_mono HO_406001.out (fun k_ hk => (⟨hk, hk.2⟩ : _ ∧ k_ ≠ gb433))) (fun _ hk => hk.2) (.string t430)) (fun _ hk => hk.2) (.string t431)) (fun _ hk => ⟨hk.1.1.1, ⟨hk.1.1.2, hk.1.2⟩⟩)⟩
          have n1_ : Aside0 (Kd.V k46 46 ((w88.setCell ⟨gb433, 0, none⟩ (.string t430)).setCell ⟨gb433, 1, none⟩ (.string t431)) w.heap.size (fun k_ => k_ ≠ gb405 ∧ k_ ≠ gb413 ∧ k_ ≠ gb433) (.slice (some ad429) t409.length co28) t409) := ⟨by (with_reducible repeat (first | apply Kd.V_alloc | apply Kd.V_drewN | apply Kd.V_drew)); exact Kd.V_mono (Kd.V_far (p := ⟨gb433, 1, none⟩) (Kd.V_far (p := ⟨gb433, 0, none⟩) (Kd.V_mono HO_414001.out (fun k_ hk => (⟨hk, hk.2⟩ : _ ∧ k_ ≠ gb433))) (fun _ hk => hk.2) (.string t430)) (fun _ hk => hk.2) (.string t431)) (fun _ hk => ⟨hk.1.1.1, ⟨hk.1.1.2, hk.1.2⟩⟩)⟩
          have n2_ : Aside0 (((w88.setCell ⟨gb433, 0, none⟩ (.string t430)).setCell ⟨gb433, 1, none⟩ (.string t431)).heap[gb405]? = some (.cells #[.int .i64 x406000_2, .slice (some ad426) x406001_2.length co22] 24 (0, 0))) := ⟨by (with_reducible repeat (first | refine blk_drewN ?_ _ | refine blk_drew ?_ | refine blk_alloc ?_ _)); refine blk_far ?_ NB405_433.out _; (with_reducible repeat (first | refine blk_drewN ?_ _ | refine blk_drew ?_ | refine blk_alloc ?_ _)); refine blk_far ?_ NB405_433.out _; exact bL BK405.out⟩
          have n3_ : Aside0 (((w88.setCell ⟨gb433, 0, none⟩ (.string t430)).setCell ⟨gb433, 1, none⟩ (.string t431)).heap[gb413]? = some (.cells #[.int .i64 t408, .slice (some ad429) t409.length co28] 24 (0, 0))) := ⟨by (with_reducible repeat (first | refine blk_drewN ?_ _ | refine blk_drew ?_ | refine blk_alloc ?_ _)); refine blk_far ?_ NB413_433.out _; (with_reducible repeat (first | refine blk_drewN ?_ _ | refine blk_drew ?_ | refine blk_alloc ?_ _)); refine blk_far ?_ NB413_433.out _; exact bL BK413.out⟩
          have n4_ : Aside0 (((w88.setCell ⟨gb433, 0, none⟩ (.string t430)).setCell ⟨gb433, 1, none⟩ (.string t431)).heap[gb433]? = some (.cells #[.string t430, .string t431] 30 (0, 0))) := ⟨by (with_reducible repeat (first | refine blk_drewN ?_ _ | refine blk_drew ?_ | refine blk_alloc ?_ _)); refine blk_put (cs := #[.string t430, .string (⟨#[]⟩ : ByteArray)]) ?_ 1 _ rfl; (with_reducible repeat (first | refine blk_drewN ?_ _ | refine blk_drew ?_ | refine blk_alloc ?_ _)); refine blk_put (cs := #[.string (⟨#[]⟩ : ByteArray), .string (⟨#[]⟩ : ByteArray)]) ?_ 0 _ rfl; exact bL BK433.out⟩
          have n5_ : Aside0 (Below w.heap.size w ((w88.setCell ⟨gb433, 0, none⟩ (.string t430)).setCell ⟨gb433, 1, none⟩ (.string t431))) := ⟨hL HB.out⟩
          (try clear HO_406001)
          (try clear HO_414001)
          (try clear BK405)
          (try clear BK413)
          (try clear BK433)
          (try clear HB)
          generalize ((w88.setCell ⟨gb433, 0, none⟩ (.string t430)).setCell ⟨gb433, 1, none⟩ (.string t431)) = w92 at n0_ n1_ n2_ n3_ n4_ n5_ ⊢
          have HO_406001 := n0_
          have HO_414001 := n1_
          have BK405 := n2_
          have BK413 := n3_
          have BK433 := n4_
          have HB := n5_
          clear n0_ n1_ n2_ n3_ n4_ n5_
          have n0_ := Aside0.mk (Kd.V_drew HO_406001.out)
          have n1_ := Aside0.mk (Kd.V_drew HO_414001.out)
          have n2_ := Aside0.mk (blk_drew BK405.out)
          have n3_ := Aside0.mk (blk_drew BK413.out)
          have n4_ := Aside0.mk (blk_drew BK433.out)
          have n5_ := Aside0.mk (below_drew1 HB.out)
          clear HO_406001
          clear HO_414001
          clear BK405
          clear BK413
          clear BK433
          clear HB
          have HO_406001 := n0_
          have HO_414001 := n1_
          have BK405 := n2_
          have BK413 := n3_
          have BK433 := n4_
          have HB := n5_
          clear n0_ n1_ n2_ n3_ n4_ n5_
          have p434 : 0 ≤ (x14_4 : Int) := of_decide_eq_true (by first | (with_reducible assumption) | assumption)
          have q434 : x14_4 < (l2.length : Int) := of_decide_eq_true (by first | (with_reducible assumption) | assumption)
          obtain ⟨ad434, e434, hx434_0⟩ := Kd.at_string HR2.out x14_4 p434 q434
          have hw434_0 := hx434_0
          obtain rfl : ad419 = ad434 := (by injection e434)
          replace hx434_0 := (HB.out.cell (World.block_lt_of_cell? w _ hx434_0)).trans hx434_0
          replace p434 := eq_true p434
          replace q434 := eq_true q434
          refine start_ (n := 24) (S := fun w' => w'.cell? ⟨gb433, 0, none⟩ = some (.string t430) ∧ w'.cell? ⟨gb433, 1, none⟩ = some (.string t431) ∧ w'.cell? (ad419.add (x14_4).toNat) = some (.string (rdOf ByteArray.empty l2 x14_4))) (ds := []) #[false, false, false, false, false, false, false, false, false, false, false, false, false, false, false, false, false, false, false, false, false, false, false, false] (by as_aux_lemma => kernel_rfl) rfl rfl ⟨(blk_cell BK433.out 0).trans rfl, (blk_cell BK433.out 1).trans rfl, ((HB.out.cell (World.block_lt_of_cell? w _ hw434_0)).trans hw434_0)⟩ (fun hHeld => ?_); refine with_tabW shelfmarklaw12_AtlasTiles.tab39 shelfmarklaw12_AtlasTiles.bits39 (fun HT_ HW_ => ?_)
          generalize w92.drew = w93 at HO_406001 HO_414001 BK405 BK413 BK433 HB hx434_0 hHeld ⊢
          refine pure_ (i := 0) (N := some 213) (v := ?_) (a' := ?_) #[true, false, false, false, false, false, false, false, false, false, false, false, false, false, false, false, false, false, false, false, false, false, false, false] rfl rfl (any_of HT_.out (by as_aux_lemma => kernel_rfl)) (fun _ _ _ h => h) (Or.inl ⟨by rfl, ?_⟩) ?_ ?_
          rotate_left
          ·intro w'
           go_simp
           with_reducible rfl
          rotate_left
          ·simp only [Act.put, sT, sZ, sS, i64_w, i32_w]
           rfl
          refine pure_ (i := 1) (N := some 214) (v := ?_) (a' := ?_) #[true, true, false, false, false, false, false, false, false, false, false, false, false, false, false, false, false, false, false, false, false, false, false, false] rfl rfl (any_of HT_.out (by as_aux_lemma => kernel_rfl)) (fun _ _ _ h => h) (Or.inl ⟨by rfl, ?_⟩) ?_ ?_
          rotate_left
          ·intro w'
           go_simp
           with_reducible rfl
          rotate_left
          ·simp only [Act.put, sT, sZ, sS, i64_w, i32_w]
           rfl
          refine pure_ (i := 2) (N := some 215) (v := ?_) (a' := ?_) #[true, true, true, false, false, false, false, false, false, false, false, false, false, false, false, false, false, false, false, false, false, false, false, false] rfl rfl (any_of HT_.out (by as_aux_lemma => kernel_rfl)) (fun _ _ _ h => h) (Or.inl ⟨by rfl, ?_⟩) ?_ ?_
          rotate_left
          ·intro w'
           go_simp
           with_reducible rfl
          rotate_left
          ·simp only [Act.put, sT, sZ, sS, i64_w, i32_w]
           rfl
          refine pure_ (i := 3) (N := some 216) (v := ?_) (a' := ?_) #[true, true, true, true, false, false, false, false, false, false, false, false, false, false, false, false, false, false, false, false, false, false, false, false] rfl rfl (any_of HT_.out (by as_aux_lemma => kernel_rfl)) (fun _ _ _ h => h) (Or.inl ⟨by rfl, ?_⟩) ?_ ?_
          rotate_left
          ·intro w'
           go_simp
           with_reducible rfl
          rotate_left
          ·simp only [Act.put, sT, sZ, sS, i64_w, i32_w]
           rfl
          refine pure_ (i := 4) (N := some 217) (v := ?_) (a' := ?_) #[true, true, true, true, true, false, false, false, false, false, false, false, false, false, false, false, false, false, false, false, false, false, false, false] rfl rfl (any_of HT_.out (by as_aux_lemma => kernel_rfl)) (fun _ _ _ h => h) (Or.inl ⟨by rfl, ?_⟩) ?_ ?_
          rotate_left
          ·intro w'
           go_simp
           with_reducible rfl
          rotate_left
          ·simp only [Act.put, sT, sZ, sS, i64_w, i32_w]
           rfl
          refine pure_ (i := 6) (N := some 219) (v := ?_) (a' := ?_) #[true, true, true, true, true, false, true, false, false, false, false, false, false, false, false, false, false, false, false, false, false, false, false, false] rfl rfl (any_of HT_.out (by as_aux_lemma => kernel_rfl)) (fun _ _ _ h => h) (Or.inl ⟨by rfl, ?_⟩) ?_ ?_
          rotate_left
          ·intro w'
           go_simp
           with_reducible rfl
          rotate_left
          ·simp only [Act.put, sT, sZ, sS, i64_w, i32_w]
           rfl
          refine take_ (i := 5) (N := some 218) (v := ?_) (a' := ?_) #[true, true, true, true, true, true, true, false, false, false, false, false, false, false, false, false, false, false, false, false, false, false, false, false] rfl rfl (take_ofW HT_.out HW_.out (by as_aux_lemma => kernel_rfl)) (fun _ _ _ h => h) (Or.inl ⟨by rfl, ?_⟩) hHeld ?_ ?_
          rotate_left
          ·rintro w' ⟨s0, s1, s2⟩
           go_simp
           with_reducible rfl
          rotate_left
          ·simp only [Act.put, sT, sZ, sS, i64_w, i32_w]
           rfl
          refine take_ (i := 7) (N := some 220) (v := ?_) (a' := ?_) #[true, true, true, true, true, true, true, true, false, false, false, false, false, false, false, false, false, false, false, false, false, false, false, false] rfl rfl (take_ofW HT_.out HW_.out (by as_aux_lemma => kernel_rfl)) (fun _ _ _ h => h) (Or.inl ⟨by rfl, ?_⟩) hHeld ?_ ?_
          rotate_left
          ·rintro w' ⟨s0, s1, s2⟩
           go_simp
           with_reducible rfl
          rotate_left
          ·simp only [Act.put, sT, sZ, sS, i64_w, i32_w]
           rfl
          refine pure_ (i := 8) (N := some 221) (v := ?_) (a' := ?_) #[true, true, true, true, true, true, true, true, true, false, false, false, false, false, false, false, false, false, false, false, false, false, false, false] rfl rfl (any_of HT_.out (by as_aux_lemma => kernel_rfl)) (fun _ _ _ h => h) (Or.inl ⟨by rfl, ?_⟩) ?_ ?_
          rotate_left
          ·intro w'
           go_simp
           with_reducible rfl
          rotate_left
          ·simp only [Act.put, sT, sZ, sS, i64_w, i32_w]
           rfl
          refine pure_ (i := 9) (N := some 222) (v := ?_) (a' := ?_) #[true, true, true, true, true, true, true, true, true, true, false, false, false, false, false, false, false, false, false, false, false, false, false, false] rfl rfl (any_of HT_.out (by as_aux_lemma => kernel_rfl)) (fun _ _ _ h => h) (Or.inl ⟨by rfl, ?_⟩) ?_ ?_
          rotate_left
          ·intro w'
           go_simp
           with_reducible rfl
          rotate_left
          ·simp only [Act.put, sT, sZ, sS, i64_w, i32_w]
           rfl
          refine pure_ (i := 10) (N := some 223) (v := ?_) (a' := ?_) #[true, true, true, true, true, true, true, true, true, true, true, false, false, false, false, false, false, false, false, false, false, false, false, false] rfl rfl (any_of HT_.out (by as_aux_lemma => kernel_rfl)) (fun _ _ _ h => h) (Or.inl ⟨by rfl, ?_⟩) ?_ ?_
          rotate_left
          ·intro w'
           go_simp
           with_reducible rfl
          rotate_left
          ·simp only [Act.put, sT, sZ, sS, i64_w, i32_w]
           rfl
          refine pure_ (i := 11) (N := some 224) (v := undef) (a' := ?_) #[true, true, true, true, true, true, true, true, true, true, true, true, false, false, false, false, false, false, false, false, false, false, false, false] rfl rfl (any_of HT_.out (by as_aux_lemma => kernel_rfl)) (fun _ _ _ h => h) (Or.inr ⟨by rfl, rfl⟩) ?_ ?_
          rotate_left
          ·simp only [Act.put, sT, sZ, sS, i64_w, i32_w]
           rfl
          refine pure_ (i := 12) (N := some 225) (v := undef) (a' := ?_) #[true, true, true, true, true, true, true, true, true, true, true, true, true, false, false, false, false, false, false, false, false, false, false, false] rfl rfl (any_of HT_.out (by as_aux_lemma => kernel_rfl)) (fun _ _ _ h => h) (Or.inr ⟨by rfl, rfl⟩) ?_ ?_
          rotate_left
          ·simp only [Act.put, sT, sZ, sS, i64_w, i32_w]
           rfl
          refine pure_ (i := 13) (N := some 226) (v := undef) (a' := ?_) #[true, true, true, true, true, true, true, true, true, true, true, true, true, true, false, false, false, false, false, false, false, false, false, false] rfl rfl (any_of HT_.out (by as_aux_lemma => kernel_rfl)) (fun _ _ _ h => h) (Or.inr ⟨by rfl, rfl⟩) ?_ ?_
          rotate_left
          ·simp only [Act.put, sT, sZ, sS, i64_w, i32_w]
           rfl
          refine pure_ (i := 14) (N := some 227) (v := undef) (a' := ?_) #[true, true, true, true, true, true, true, true, true, true, true, true, true, true, true, false, false, false, false, false, false, false, false, false] rfl rfl (any_of HT_.out (by as_aux_lemma => kernel_rfl)) (fun _ _ _ h => h) (Or.inr ⟨by rfl, rfl⟩) ?_ ?_
          rotate_left
          ·simp only [Act.put, sT, sZ, sS, i64_w, i32_w]
           rfl
          refine pure_ (i := 15) (N := some 228) (v := undef) (a' := ?_) #[true, true, true, true, true, true, true, true, true, true, true, true, true, true, true, true, false, false, false, false, false, false, false, false] rfl rfl (any_of HT_.out (by as_aux_lemma => kernel_rfl)) (fun _ _ _ h => h) (Or.inr ⟨by rfl, rfl⟩) ?_ ?_
          rotate_left
          ·simp only [Act.put, sT, sZ, sS, i64_w, i32_w]
           rfl
          refine pure_ (i := 16) (N := some 229) (v := undef) (a' := ?_) #[true, true, true, true, true, true, true, true, true, true, true, true, true, true, true, true, true, false, false, false, false, false, false, false] rfl rfl (any_of HT_.out (by as_aux_lemma => kernel_rfl)) (fun _ _ _ h => h) (Or.inr ⟨by rfl, rfl⟩) ?_ ?_
          rotate_left
          ·simp only [Act.put, sT, sZ, sS, i64_w, i32_w]
           rfl
          refine pure_ (i := 17) (N := some 230) (v := undef) (a' := ?_) #[true, true, true, true, true, true, true, true, true, true, true, true, true, true, true, true, true, true, false, false, false, false, false, false] rfl rfl (any_of HT_.out (by as_aux_lemma => kernel_rfl)) (fun _ _ _ h => h) (Or.inr ⟨by rfl, rfl⟩) ?_ ?_
          rotate_left
          ·simp only [Act.put, sT, sZ, sS, i64_w, i32_w]
           rfl
          refine pure_ (i := 18) (N := some 231) (v := undef) (a' := ?_) #[true, true, true, true, true, true, true, true, true, true, true, true, true, true, true, true, true, true, true, false, false, false, false, false] rfl rfl (any_of HT_.out (by as_aux_lemma => kernel_rfl)) (fun _ _ _ h => h) (Or.inr ⟨by rfl, rfl⟩) ?_ ?_
          rotate_left
          ·simp only [Act.put, sT, sZ, sS, i64_w, i32_w]
           rfl
          refine pure_ (i := 19) (N := some 232) (v := undef) (a' := ?_) #[true, true, true, true, true, true, true, true, true, true, true, true, true, true, true, true, true, true, true, true, false, false, false, false] rfl rfl (any_of HT_.out (by as_aux_lemma => kernel_rfl)) (fun _ _ _ h => h) (Or.inr ⟨by rfl, rfl⟩) ?_ ?_
          rotate_left
          ·simp only [Act.put, sT, sZ, sS, i64_w, i32_w]
           rfl
          refine pure_ (i := 20) (N := some 233) (v := undef) (a' := ?_) #[true, true, true, true, true, true, true, true, true, true, true, true, true, true, true, true, true, true, true, true, true, false, false, false] rfl rfl (any_of HT_.out (by as_aux_lemma => kernel_rfl)) (fun _ _ _ h => h) (Or.inr ⟨by rfl, rfl⟩) ?_ ?_
          rotate_left
          ·simp only [Act.put, sT, sZ, sS, i64_w, i32_w]
           rfl
          refine pure_ (i := 21) (N := some 234) (v := undef) (a' := ?_) #[true, true, true, true, true, true, true, true, true, true, true, true, true, true, true, true, true, true, true, true, true, true, false, false] rfl rfl (any_of HT_.out (by as_aux_lemma => kernel_rfl)) (fun _ _ _ h => h) (Or.inr ⟨by rfl, rfl⟩) ?_ ?_
          rotate_left
          ·simp only [Act.put, sT, sZ, sS, i64_w, i32_w]
           rfl
          refine pure_ (i := 22) (N := some 235) (v := undef) (a' := ?_) #[true, true, true, true, true, true, true, true, true, true, true, true, true, true, true, true, true, true, true, true, true, true, true, false] rfl rfl (any_of HT_.out (by as_aux_lemma => kernel_rfl)) (fun _ _ _ h => h) (Or.inr ⟨by rfl, rfl⟩) ?_ ?_
          rotate_left
          ·simp only [Act.put, sT, sZ, sS, i64_w, i32_w]
           rfl
          refine pure_ (i := 23) (N := some 236) (v := ?_) (a' := ?_) #[true, true, true, true, true, true, true, true, true, true, true, true, true, true, true, true, true, true, true, true, true, true, true, true] rfl rfl (any_of HT_.out (by as_aux_lemma => kernel_rfl)) (fun _ _ _ h => h) (Or.inl ⟨by rfl, ?_⟩) ?_ ?_
          rotate_left
          ·intro w'
           go_simp
           with_reducible rfl
          rotate_left
          ·simp only [Act.put, sT, sZ, sS, i64_w, i32_w]
           rfl
          refine done_ (done_of HT_.out (by as_aux_lemma => kernel_rfl)) ?_
          try go_wp2
          go_roundg k8
          case measure => have := HJ5.out; have := HK2.out; have := HJ20.out; have := HK4.out; have := HJ45.out; have := HJ63.out; have := HJ69.out; have := HK8.out; omega
          case rel => exact ⟨(x20_8), (wrap64 (x21_8 + 1)), (by first | rfl | (simp; done) | (simp [*]; done) | (simp [ne_nil_bytes]; done) | (simp [eq_nil_bytes]; done)), (by first | rfl | (simp; done) | (simp [*]; done) | (simp [ne_nil_bytes]; done) | (simp [eq_nil_bytes]; done)), H', ⟨by have := HJ5.out; have := HK2.out; have := HJ20.out; have := HK4.out; have := HJ45.out; have := HJ63.out; have := HJ69.out; have := HK8.out; omega⟩, ⟨by (with_reducible repeat (first | apply Kd.V_alloc | apply Kd.V_drewN | apply Kd.V_drew)); exact Kd.V_mono HO_406001.out (fun _ hk => ⟨hk.1, hk.2.1⟩)⟩, ⟨by (with_reducible repeat (first | apply Kd.V_alloc | apply Kd.V_drewN | apply Kd.V_drew)); exact Kd.V_mono HO_414001.out (fun _ hk => ⟨hk.1, hk.2.1⟩)⟩, ⟨by exact bL BK405.out⟩, ⟨by exact bL BK413.out⟩, ⟨hL HB.out⟩⟩
         rw [if_neg c84] at H
         have c84b0 : (Op.bytesLess ((rdOf ByteArray.empty l2 x14_4).toList) t430.toList) = false := by simpa using c84
         clear c84
         by_cases c94 : t431.toList = ([] : List UInt8)
         ·rw [if_pos c94] at H
          have c94b0 : (t431.toList == ([] : List UInt8)) = true := beq_iff_eq.mpr c94
          have c94b1 : (t431.toList != ([] : List UInt8)) = false := bne_eq_false_iff_eq.mpr c94
          clear c94
          have H' := Aside0.mk H
          clear H
          have hnb95 := NB413_405.out
          have hnc95 := NB405_413.out
          have hcz96_0 : wr.cell? ⟨gb413, 0, none⟩ = some (.int .i64 t408) := (blk_cell BK413.out 0).trans rfl
          have hcz96_1 : wr.cell? ⟨gb413, 1, none⟩ = some (.slice (some ad429) t409.length co28) := (blk_cell BK413.out 1).trans rfl
          have hfz96_0 := blk_frozen BK413.out 0
          have hfz96_1 := blk_frozen BK413.out 1
          try go_wp2_with (first | ((with_reducible refine gate_callee (f := 13) rfl ?_); refine goesL_ (some 210) rfl rfl Try.func13 (by as_aux_lemma => kernel_rfl) rfl #[.agg #[.int .i64 t408, .slice (some ad429) t409.length co28], .int .i64 x21_8] rfl (by (try simp only [List.map_toArray, List.map_cons, List.map_nil]); first | done | rfl | (simp only [List.length_drop, List.length_take]; rfl)) ?_; (with_reducible refine (atlas_Of.calls k8 t408 _ _ t409 x21_8 t430 t431 true _ ?side1 ?side2 A80.out).mono ?_); (case side1 => repeat (first | exact (Kd.V_reads' HO_414001.out).2.2 | (with_reducible refine Kd.C_alloc ?_ _) | (with_reducible refine Kd.C_drewN ?_ _) | (with_reducible refine Kd.C_drew ?_))); (case side2 => exact (Kd.V_reads' HO_414001.out).2.1); rintro e w97 ⟨rfl, hb⟩; refine ⟨_, rfl, ?_⟩; have n0_ := Aside0.mk (Kd.V_below (vL HO_406001.out) hb); have n1_ := Aside0.mk (Kd.V_below (vL HO_414001.out) hb); have n2_ := Aside0.mk (blk_below BK405.out hb); have n3_ := Aside0.mk (blk_below BK413.out hb); have n4_ := Aside0.mk (below_step (hL HB.out) hb); clear HO_406001; clear HO_414001; clear BK405; clear BK413; clear HB; have HO_406001 := n0_; have HO_414001 := n1_; have BK405 := n2_; have BK413 := n3_; have HB := n4_; clear n0_ n1_ n2_ n3_ n4_; (try clear hb); (try clear hb2); (try clear hk); (try clear hi)) | ((with_reducible refine gate_dst (N := 22) rfl ?_); (try (refine gate_guard (by rfl) ?_; dsimp only)); refine box_event ?hg (N := 22) ?hd (cs := #[.string (⟨#[]⟩ : ByteArray), .string (⟨#[]⟩ : ByteArray)]) (t := 30) ?hr ?_; (case hd => rfl); (case hg => rfl); (case hr => first | (go_simp; done) | (go_simp; rfl)); intro gb433 hg w98 hbox hb; have n0_ := Aside0.mk (Kd.V_below (Kd.V_elderB (vL HO_406001.out) gb433 (Nat.le_of_eq hg.symm)) hb); have n1_ := Aside0.mk (Kd.V_below (Kd.V_elderB (vL HO_414001.out) gb433 (Nat.le_of_eq hg.symm)) hb); have n2_ := Aside0.mk (blk_below BK405.out hb); have n3_ := Aside0.mk (blk_below BK413.out hb); have n4_ := Aside0.mk (below_step (hL HB.out) hb); have n5_ := Aside0.mk (hbox); have n6_ := Above.mk ((by rw [hg]; exact (below_size (hL HB.out)) : w.heap.size ≤ gb433)); have n7_ := Above.mk ((by rw [hg]; exact (below_size (hL HB.out)) : w.heap.size ≤ gb433)); have n8_ := Aside0.mk ((by rw [hg]; exact Nat.ne_of_lt (blk_lt (g := gb405) (o := .cells #[.int .i64 x406000_2, .slice (some ad426) x406001_2.length co22] 24 (0, 0)) (bL BK405.out)) : gb405 ≠ gb433)); have n9_ := Aside0.mk ((by rw [hg]; exact Nat.ne_of_gt (blk_lt (g := gb405) (o := .cells #[.int .i64 x406000_2, .slice (some ad426) x406001_2.length co22] 24 (0, 0)) (bL BK405.out)) : gb433 ≠ gb405)); have n10_ := Aside0.mk ((by rw [hg]; exact Nat.ne_of_lt (blk_lt (g := gb413) (o := .cells #[.int .i64 t408, .slice (some ad429) t409.length co28] 24 (0, 0)) (bL BK413.out)) : gb413 ≠ gb433)); have n11_ := Aside0.mk ((by rw [hg]; exact Nat.ne_of_gt (blk_lt (g := gb413) (o := .cells #[.int .i64 t408, .slice (some ad429) t409.length co28] 24 (0, 0)) (bL BK413.out)) : gb433 ≠ gb413)); clear HO_406001; clear HO_414001; clear BK405; clear BK413; clear HB; have HO_406001 := n0_; have HO_414001 := n1_; have BK405 := n2_; have BK413 := n3_; have HB := n4_; have BK433 := n5_; have GW433 := n6_; have GE433 := n7_; have NB405_433 := n8_; have NB433_405 := n9_; have NB413_433 := n10_; have NB433_413 := n11_; clear n0_ n1_ n2_ n3_ n4_ n5_ n6_ n7_ n8_ n9_ n10_ n11_; clear hb hbox hg; have hnb99 := NB433_405.out; have hnc99 := NB405_433.out; have hnb100 := NB433_413.out; have hnc100 := NB413_433.out; have hcz101_0 : w98.cell? ⟨gb433, 0, none⟩ = some (.string (⟨#[]⟩ : ByteArray)) := (blk_cell BK433.out 0).trans rfl; have hcz101_1 : w98.cell? ⟨gb433, 1, none⟩ = some (.string (⟨#[]⟩ : ByteArray)) := (blk_cell BK433.out 1).trans rfl; have hfz101_0 := blk_frozen BK433.out 0; have hfz101_1 := blk_frozen BK433.out 1))
          have n0_ : Aside0 (Kd.V k46 46 ((w98.setCell ⟨gb433, 0, none⟩ (.string t430)).setCell ⟨gb433, 1, none⟩ (.string t431)) w.heap.size (fun k_ => k_ ≠ gb405 ∧ k_ ≠ gb413 ∧ k_ ≠ gb433) (.slice (some ad426) x406001_2.length co22) x406001_2) := ⟨by (with_reducible repeat (first | apply Kd.V_alloc | apply Kd.V_drewN | apply Kd.V_drew)); exact Kd.V_mono (Kd.V_far (p := ⟨gb433, 1, none⟩) (Kd.V_far (p := ⟨gb433, 0, none⟩) (Kd.V_mono HO_406001.out (fun k_ hk => (⟨hk, hk.2⟩ : _ ∧ k_ ≠ gb433))) (fun _ hk => hk.2) (.string t430)) (fun _ hk => hk.2) (.string t431)) (fun _ hk => ⟨hk.1.1.1, ⟨hk.1.1.2, hk.1.2⟩⟩)⟩
          have n1_ : Aside0 (Kd.V k46 46 ((w98.setCell ⟨gb433, 0, none⟩ (.string t430)).setCell ⟨gb433, 1, none⟩ (.string t431)) w.heap.size (fun k_ => k_ ≠ gb405 ∧ k_ ≠ gb413 ∧ k_ ≠ gb433) (.slice (some ad429) t409.length co28) t409) := ⟨by (with_reducible repeat (first | apply Kd.V_alloc | apply Kd.V_drewN | apply Kd.V_drew)); exact Kd.V_mono (Kd.V_far (p := ⟨gb433, 1, none⟩) (Kd.V_far (p := ⟨gb433, 0, none⟩) (Kd.V_mono HO_414001.out (fun k_ hk => (⟨hk, hk.2⟩ : _ ∧ k_ ≠ gb433))) (fun _ hk => hk.2) (.string t430)) (fun _ hk => hk.2) (.string t431)) (fun _ hk => ⟨hk.1.1.1, ⟨hk.1.1.2, hk.1.2⟩⟩)⟩
          have n2_ : Aside0 (((w98.setCell ⟨gb433, 0, none⟩ (.string t430)).setCell ⟨gb433, 1, none⟩ (.string t431)).heap[gb405]? = some (.cells #[.int .i64 x406000_2, .slice (some ad426) x406001_2.length co22] 24 (0, 0))) := ⟨by (with_reducible repeat (first | refine blk_drewN ?_ _ | refine blk_drew ?_ | refine blk_alloc ?_ _)); refine blk_far ?_ NB405_433.out _; (with_reducible repeat (first | refine blk_drewN ?_ _ | refine blk_drew ?_ | refine blk_alloc ?_ _)); refine blk_far ?_ NB405_433.out _; exact bL BK405.out⟩
          have n3_ : Aside0 (((w98.setCell ⟨gb433, 0, none⟩ (.string t430)).setCell ⟨gb433, 1, none⟩ (.string t431)).heap[gb413]? = some (.cells #[.int .i64 t408, .slice (some ad429) t409.length co28] 24 (0, 0))) := ⟨by (with_reducible repeat (first | refine blk_drewN ?_ _ | refine blk_drew ?_ | refine blk_alloc ?_ _)); refine blk_far ?_ NB413_433.out _; (with_reducible repeat (first | refine blk_drewN ?_ _ | refine blk_drew ?_ | refine blk_alloc ?_ _)); refine blk_far ?_ NB413_433.out _; exact bL BK413.out⟩
          have n4_ : Aside0 (((w98.setCell ⟨gb433, 0, none⟩ (.string t430)).setCell ⟨gb433, 1, none⟩ (.string t431)).heap[gb433]? = some (.cells #[.string t430, .string t431] 30 (0, 0))) := ⟨by (with_reducible repeat (first | refine blk_drewN ?_ _ | refine blk_drew ?_ | refine blk_alloc ?_ _)); refine blk_put (cs := #[.string t430, .string (⟨#[]⟩ : ByteArray)]) ?_ 1 _ rfl; (with_reducible repeat (first | refine blk_drewN ?_ _ | refine blk_drew ?_ | refine blk_alloc ?_ _)); refine blk_put (cs := #[.string (⟨#[]⟩ : ByteArray), .string (⟨#[]⟩ : ByteArray)]) ?_ 0 _ rfl; exact bL BK433.out⟩
          have n5_ : Aside0 (Below w.heap.size w ((w98.setCell ⟨gb433, 0, none⟩ (.string t430)).setCell ⟨gb433, 1, none⟩ (.string t431))) := ⟨hL HB.out⟩
          (try clear HO_406001)
          (try clear HO_414001)
          (try clear BK405)
          (try clear BK413)
          (try clear BK433)
          (try clear HB)
          generalize ((w98.setCell ⟨gb433, 0, none⟩ (.string t430)).setCell ⟨gb433, 1, none⟩ (.string t431)) = w102 at n0_ n1_ n2_ n3_ n4_ n5_ ⊢
          have HO_406001 := n0_
          have HO_414001 := n1_
          have BK405 := n2_
          have BK413 := n3_
          have BK433 := n4_
          have HB := n5_
          clear n0_ n1_ n2_ n3_ n4_ n5_
          have n0_ := Aside0.mk (Kd.V_drew HO_406001.out)
          have n1_ := Aside0.mk (Kd.V_drew HO_414001.out)
          have n2_ := Aside0.mk (blk_drew BK405.out)
          have n3_ := Aside0.mk (blk_drew BK413.out)
          have n4_ := Aside0.mk (blk_drew BK433.out)
          have n5_ := Aside0.mk (below_drew1 HB.out)
          clear HO_406001
          clear HO_414001
          clear BK405
          clear BK413
          clear BK433
          clear HB
          have HO_406001 := n0_
          have HO_414001 := n1_
          have BK405 := n2_
          have BK413 := n3_
          have BK433 := n4_
          have HB := n5_
          clear n0_ n1_ n2_ n3_ n4_ n5_
          have p434 : 0 ≤ (x14_4 : Int) := of_decide_eq_true (by first | (with_reducible assumption) | assumption)
          have q434 : x14_4 < (l2.length : Int) := of_decide_eq_true (by first | (with_reducible assumption) | assumption)
          obtain ⟨ad434, e434, hx434_0⟩ := Kd.at_string HR2.out x14_4 p434 q434
          have hw434_0 := hx434_0
          obtain rfl : ad419 = ad434 := (by injection e434)
          replace hx434_0 := (HB.out.cell (World.block_lt_of_cell? w _ hx434_0)).trans hx434_0
          replace p434 := eq_true p434
          replace q434 := eq_true q434
          refine start_ (n := 24) (S := fun w' => w'.cell? ⟨gb433, 0, none⟩ = some (.string t430) ∧ w'.cell? ⟨gb433, 1, none⟩ = some (.string t431) ∧ w'.cell? (ad419.add (x14_4).toNat) = some (.string (rdOf ByteArray.empty l2 x14_4))) (ds := []) #[false, false, false, false, false, false, false, false, false, false, false, false, false, false, false, false, false, false, false, false, false, false, false, false] (by as_aux_lemma => kernel_rfl) rfl rfl ⟨(blk_cell BK433.out 0).trans rfl, (blk_cell BK433.out 1).trans rfl, ((HB.out.cell (World.block_lt_of_cell? w _ hw434_0)).trans hw434_0)⟩ (fun hHeld => ?_); refine with_tabW shelfmarklaw12_AtlasTiles.tab39 shelfmarklaw12_AtlasTiles.bits39 (fun HT_ HW_ => ?_)
          generalize w102.drew = w103 at HO_406001 HO_414001 BK405 BK413 BK433 HB hx434_0 hHeld ⊢
          refine pure_ (i := 0) (N := some 213) (v := ?_) (a' := ?_) #[true, false, false, false, false, false, false, false, false, false, false, false, false, false, false, false, false, false, false, false, false, false, false, false] rfl rfl (any_of HT_.out (by as_aux_lemma => kernel_rfl)) (fun _ _ _ h => h) (Or.inl ⟨by rfl, ?_⟩) ?_ ?_
          rotate_left
          ·intro w'
           go_simp
           with_reducible rfl
          rotate_left
          ·simp only [Act.put, sT, sZ, sS, i64_w, i32_w]
           rfl
          refine pure_ (i := 1) (N := some 214) (v := ?_) (a' := ?_) #[true, true, false, false, false, false, false, false, false, false, false, false, false, false, false, false, false, false, false, false, false, false, false, false] rfl rfl (any_of HT_.out (by as_aux_lemma => kernel_rfl)) (fun _ _ _ h => h) (Or.inl ⟨by rfl, ?_⟩) ?_ ?_
          rotate_left
          ·intro w'
           go_simp
           with_reducible rfl
          rotate_left
          ·simp only [Act.put, sT, sZ, sS, i64_w, i32_w]
           rfl
          refine pure_ (i := 2) (N := some 215) (v := ?_) (a' := ?_) #[true, true, true, false, false, false, false, false, false, false, false, false, false, false, false, false, false, false, false, false, false, false, false, false] rfl rfl (any_of HT_.out (by as_aux_lemma => kernel_rfl)) (fun _ _ _ h => h) (Or.inl ⟨by rfl, ?_⟩) ?_ ?_
          rotate_left
          ·intro w'
           go_simp
           with_reducible rfl
          rotate_left
          ·simp only [Act.put, sT, sZ, sS, i64_w, i32_w]
           rfl
          refine pure_ (i := 3) (N := some 216) (v := ?_) (a' := ?_) #[true, true, true, true, false, false, false, false, false, false, false, false, false, false, false, false, false, false, false, false, false, false, false, false] rfl rfl (any_of HT_.out (by as_aux_lemma => kernel_rfl)) (fun _ _ _ h => h) (Or.inl ⟨by rfl, ?_⟩) ?_ ?_
          rotate_left
          ·intro w'
           go_simp
           with_reducible rfl
          rotate_left
          ·simp only [Act.put, sT, sZ, sS, i64_w, i32_w]
           rfl
          refine pure_ (i := 4) (N := some 217) (v := ?_) (a' := ?_) #[true, true, true, true, true, false, false, false, false, false, false, false, false, false, false, false, false, false, false, false, false, false, false, false] rfl rfl (any_of HT_.out (by as_aux_lemma => kernel_rfl)) (fun _ _ _ h => h) (Or.inl ⟨by rfl, ?_⟩) ?_ ?_
          rotate_left
          ·intro w'
           go_simp
           with_reducible rfl
          rotate_left
          ·simp only [Act.put, sT, sZ, sS, i64_w, i32_w]
           rfl
          refine pure_ (i := 6) (N := some 219) (v := ?_) (a' := ?_) #[true, true, true, true, true, false, true, false, false, false, false, false, false, false, false, false, false, false, false, false, false, false, false, false] rfl rfl (any_of HT_.out (by as_aux_lemma => kernel_rfl)) (fun _ _ _ h => h) (Or.inl ⟨by rfl, ?_⟩) ?_ ?_
          rotate_left
          ·intro w'
           go_simp
           with_reducible rfl
          rotate_left
          ·simp only [Act.put, sT, sZ, sS, i64_w, i32_w]
           rfl
          refine take_ (i := 5) (N := some 218) (v := ?_) (a' := ?_) #[true, true, true, true, true, true, true, false, false, false, false, false, false, false, false, false, false, false, false, false, false, false, false, false] rfl rfl (take_ofW HT_.out HW_.out (by as_aux_lemma => kernel_rfl)) (fun _ _ _ h => h) (Or.inl ⟨by rfl, ?_⟩) hHeld ?_ ?_
          rotate_left
          ·rintro w' ⟨s0, s1, s2⟩
           go_simp
           with_reducible rfl
          rotate_left
          ·simp only [Act.put, sT, sZ, sS, i64_w, i32_w]
           rfl
          refine take_ (i := 7) (N := some 220) (v := ?_) (a' := ?_) #[true, true, true, true, true, true, true, true, false, false, false, false, false, false, false, false, false, false, false, false, false, false, false, false] rfl rfl (take_ofW HT_.out HW_.out (by as_aux_lemma => kernel_rfl)) (fun _ _ _ h => h) (Or.inl ⟨by rfl, ?_⟩) hHeld ?_ ?_
          rotate_left
          ·rintro w' ⟨s0, s1, s2⟩
           go_simp
           with_reducible rfl
          rotate_left
          ·simp only [Act.put, sT, sZ, sS, i64_w, i32_w]
           rfl
          refine pure_ (i := 8) (N := some 221) (v := ?_) (a' := ?_) #[true, true, true, true, true, true, true, true, true, false, false, false, false, false, false, false, false, false, false, false, false, false, false, false] rfl rfl (any_of HT_.out (by as_aux_lemma => kernel_rfl)) (fun _ _ _ h => h) (Or.inl ⟨by rfl, ?_⟩) ?_ ?_
          rotate_left
          ·intro w'
           go_simp
           with_reducible rfl
          rotate_left
          ·simp only [Act.put, sT, sZ, sS, i64_w, i32_w]
           rfl
          refine pure_ (i := 9) (N := some 222) (v := ?_) (a' := ?_) #[true, true, true, true, true, true, true, true, true, true, false, false, false, false, false, false, false, false, false, false, false, false, false, false] rfl rfl (any_of HT_.out (by as_aux_lemma => kernel_rfl)) (fun _ _ _ h => h) (Or.inl ⟨by rfl, ?_⟩) ?_ ?_
          rotate_left
          ·intro w'
           go_simp
           with_reducible rfl
          rotate_left
          ·simp only [Act.put, sT, sZ, sS, i64_w, i32_w]
           rfl
          refine pure_ (i := 10) (N := some 223) (v := ?_) (a' := ?_) #[true, true, true, true, true, true, true, true, true, true, true, false, false, false, false, false, false, false, false, false, false, false, false, false] rfl rfl (any_of HT_.out (by as_aux_lemma => kernel_rfl)) (fun _ _ _ h => h) (Or.inl ⟨by rfl, ?_⟩) ?_ ?_
          rotate_left
          ·intro w'
           go_simp
           with_reducible rfl
          rotate_left
          ·simp only [Act.put, sT, sZ, sS, i64_w, i32_w]
           rfl
          refine pure_ (i := 11) (N := some 224) (v := ?_) (a' := ?_) #[true, true, true, true, true, true, true, true, true, true, true, true, false, false, false, false, false, false, false, false, false, false, false, false] rfl rfl (any_of HT_.out (by as_aux_lemma => kernel_rfl)) (fun _ _ _ h => h) (Or.inl ⟨by rfl, ?_⟩) ?_ ?_
          rotate_left
          ·intro w'
           go_simp
           with_reducible rfl
          rotate_left
          ·simp only [Act.put, sT, sZ, sS, i64_w, i32_w]
           rfl
          refine take_ (i := 12) (N := some 225) (v := ?_) (a' := ?_) #[true, true, true, true, true, true, true, true, true, true, true, true, true, false, false, false, false, false, false, false, false, false, false, false] rfl rfl (take_ofW HT_.out HW_.out (by as_aux_lemma => kernel_rfl)) (fun _ _ _ h => h) (Or.inl ⟨by rfl, ?_⟩) hHeld ?_ ?_
          rotate_left
          ·rintro w' ⟨s0, s1, s2⟩
           go_simp
           with_reducible rfl
          rotate_left
          ·simp only [Act.put, sT, sZ, sS, i64_w, i32_w]
           rfl
          refine pure_ (i := 13) (N := some 226) (v := ?_) (a' := ?_) #[true, true, true, true, true, true, true, true, true, true, true, true, true, true, false, false, false, false, false, false, false, false, false, false] rfl rfl (any_of HT_.out (by as_aux_lemma => kernel_rfl)) (fun _ _ _ h => h) (Or.inl ⟨by rfl, ?_⟩) ?_ ?_
          rotate_left
          ·intro w'
           go_simp
           with_reducible rfl
          rotate_left
          ·simp only [Act.put, sT, sZ, sS, i64_w, i32_w]
           rfl
          refine pure_ (i := 14) (N := some 227) (v := ?_) (a' := ?_) #[true, true, true, true, true, true, true, true, true, true, true, true, true, true, true, false, false, false, false, false, false, false, false, false] rfl rfl (any_of HT_.out (by as_aux_lemma => kernel_rfl)) (fun _ _ _ h => h) (Or.inl ⟨by rfl, ?_⟩) ?_ ?_
          rotate_left
          ·intro w'
           go_simp
           with_reducible rfl
          rotate_left
          ·simp only [Act.put, sT, sZ, sS, i64_w, i32_w]
           rfl
          refine pure_ (i := 15) (N := some 228) (v := undef) (a' := ?_) #[true, true, true, true, true, true, true, true, true, true, true, true, true, true, true, true, false, false, false, false, false, false, false, false] rfl rfl (any_of HT_.out (by as_aux_lemma => kernel_rfl)) (fun _ _ _ h => h) (Or.inr ⟨by rfl, rfl⟩) ?_ ?_
          rotate_left
          ·simp only [Act.put, sT, sZ, sS, i64_w, i32_w]
           rfl
          refine pure_ (i := 16) (N := some 229) (v := undef) (a' := ?_) #[true, true, true, true, true, true, true, true, true, true, true, true, true, true, true, true, true, false, false, false, false, false, false, false] rfl rfl (any_of HT_.out (by as_aux_lemma => kernel_rfl)) (fun _ _ _ h => h) (Or.inr ⟨by rfl, rfl⟩) ?_ ?_
          rotate_left
          ·simp only [Act.put, sT, sZ, sS, i64_w, i32_w]
           rfl
          refine pure_ (i := 17) (N := some 230) (v := undef) (a' := ?_) #[true, true, true, true, true, true, true, true, true, true, true, true, true, true, true, true, true, true, false, false, false, false, false, false] rfl rfl (any_of HT_.out (by as_aux_lemma => kernel_rfl)) (fun _ _ _ h => h) (Or.inr ⟨by rfl, rfl⟩) ?_ ?_
          rotate_left
          ·simp only [Act.put, sT, sZ, sS, i64_w, i32_w]
           rfl
          refine pure_ (i := 18) (N := some 231) (v := undef) (a' := ?_) #[true, true, true, true, true, true, true, true, true, true, true, true, true, true, true, true, true, true, true, false, false, false, false, false] rfl rfl (any_of HT_.out (by as_aux_lemma => kernel_rfl)) (fun _ _ _ h => h) (Or.inr ⟨by rfl, rfl⟩) ?_ ?_
          rotate_left
          ·simp only [Act.put, sT, sZ, sS, i64_w, i32_w]
           rfl
          refine pure_ (i := 19) (N := some 232) (v := undef) (a' := ?_) #[true, true, true, true, true, true, true, true, true, true, true, true, true, true, true, true, true, true, true, true, false, false, false, false] rfl rfl (any_of HT_.out (by as_aux_lemma => kernel_rfl)) (fun _ _ _ h => h) (Or.inr ⟨by rfl, rfl⟩) ?_ ?_
          rotate_left
          ·simp only [Act.put, sT, sZ, sS, i64_w, i32_w]
           rfl
          refine pure_ (i := 20) (N := some 233) (v := undef) (a' := ?_) #[true, true, true, true, true, true, true, true, true, true, true, true, true, true, true, true, true, true, true, true, true, false, false, false] rfl rfl (any_of HT_.out (by as_aux_lemma => kernel_rfl)) (fun _ _ _ h => h) (Or.inr ⟨by rfl, rfl⟩) ?_ ?_
          rotate_left
          ·simp only [Act.put, sT, sZ, sS, i64_w, i32_w]
           rfl
          refine pure_ (i := 21) (N := some 234) (v := undef) (a' := ?_) #[true, true, true, true, true, true, true, true, true, true, true, true, true, true, true, true, true, true, true, true, true, true, false, false] rfl rfl (any_of HT_.out (by as_aux_lemma => kernel_rfl)) (fun _ _ _ h => h) (Or.inr ⟨by rfl, rfl⟩) ?_ ?_
          rotate_left
          ·simp only [Act.put, sT, sZ, sS, i64_w, i32_w]
           rfl
          refine pure_ (i := 22) (N := some 235) (v := ?_) (a' := ?_) #[true, true, true, true, true, true, true, true, true, true, true, true, true, true, true, true, true, true, true, true, true, true, true, false] rfl rfl (any_of HT_.out (by as_aux_lemma => kernel_rfl)) (fun _ _ _ h => h) (Or.inl ⟨by rfl, ?_⟩) ?_ ?_
          rotate_left
          ·intro w'
           go_simp
           with_reducible rfl
          rotate_left
          ·simp only [Act.put, sT, sZ, sS, i64_w, i32_w]
           rfl
          refine pure_ (i := 23) (N := some 236) (v := ?_) (a' := ?_) #[true, true, true, true, true, true, true, true, true, true, true, true, true, true, true, true, true, true, true, true, true, true, true, true] rfl rfl (any_of HT_.out (by as_aux_lemma => kernel_rfl)) (fun _ _ _ h => h) (Or.inl ⟨by rfl, ?_⟩) ?_ ?_
          rotate_left
          ·intro w'
           go_simp
           with_reducible rfl
          rotate_left
          ·simp only [Act.put, sT, sZ, sS, i64_w, i32_w]
           rfl
          refine done_ (done_of HT_.out (by as_aux_lemma => kernel_rfl)) ?_
          try go_wp2
          go_roundg k8
          case measure => have := HJ5.out; have := HK2.out; have := HJ20.out; have := HK4.out; have := HJ45.out; have := HJ63.out; have := HJ69.out; have := HK8.out; omega
          case rel => exact ⟨(wrap64 (x20_8 + 1)), (wrap64 (x21_8 + 1)), (by first | rfl | (simp; done) | (simp [*]; done) | (simp [ne_nil_bytes]; done) | (simp [eq_nil_bytes]; done)), (by first | rfl | (simp; done) | (simp [*]; done) | (simp [ne_nil_bytes]; done) | (simp [eq_nil_bytes]; done)), H', ⟨by have := HJ5.out; have := HK2.out; have := HJ20.out; have := HK4.out; have := HJ45.out; have := HJ63.out; have := HJ69.out; have := HK8.out; omega⟩, ⟨by (with_reducible repeat (first | apply Kd.V_alloc | apply Kd.V_drewN | apply Kd.V_drew)); exact Kd.V_mono HO_406001.out (fun _ hk => ⟨hk.1, hk.2.1⟩)⟩, ⟨by (with_reducible repeat (first | apply Kd.V_alloc | apply Kd.V_drewN | apply Kd.V_drew)); exact Kd.V_mono HO_414001.out (fun _ hk => ⟨hk.1, hk.2.1⟩)⟩, ⟨by exact bL BK405.out⟩, ⟨by exact bL BK413.out⟩, ⟨hL HB.out⟩⟩
         rw [if_neg c94] at H
         have c94b0 : (t431.toList == ([] : List UInt8)) = false := beq_eq_false_iff_ne.mpr c94
         have c94b1 : (t431.toList != ([] : List UInt8)) = true := bne_iff_ne.mpr c94
         by_cases c104 : (Op.bytesLess ((rdOf ByteArray.empty l2 x14_4).toList) t431.toList) = true
         ·rw [if_pos c104] at H
          have c104b0 : (Op.bytesLess ((rdOf ByteArray.empty l2 x14_4).toList) t431.toList) = true := c104
          clear c104
          have H' := Aside0.mk H
          clear H
          have hnb105 := NB413_405.out
          have hnc105 := NB405_413.out
          have hcz106_0 : wr.cell? ⟨gb413, 0, none⟩ = some (.int .i64 t408) := (blk_cell BK413.out 0).trans rfl
          have hcz106_1 : wr.cell? ⟨gb413, 1, none⟩ = some (.slice (some ad429) t409.length co28) := (blk_cell BK413.out 1).trans rfl
          have hfz106_0 := blk_frozen BK413.out 0
          have hfz106_1 := blk_frozen BK413.out 1
          try go_wp2_with (first | ((with_reducible refine gate_callee (f := 13) rfl ?_); refine goesL_ (some 210) rfl rfl Try.func13 (by as_aux_lemma => kernel_rfl) rfl #[.agg #[.int .i64 t408, .slice (some ad429) t409.length co28], .int .i64 x21_8] rfl (by (try simp only [List.map_toArray, List.map_cons, List.map_nil]); first | done | rfl | (simp only [List.length_drop, List.length_take]; rfl)) ?_; (with_reducible refine (atlas_Of.calls k8 t408 _ _ t409 x21_8 t430 t431 true _ ?side1 ?side2 A80.out).mono ?_); (case side1 => repeat (first | exact (Kd.V_reads' HO_414001.out).2.2 | (with_reducible refine Kd.C_alloc ?_ _) | (with_reducible refine Kd.C_drewN ?_ _) | (with_reducible refine Kd.C_drew ?_))); (case side2 => exact (Kd.V_reads' HO_414001.out).2.1); rintro e w107 ⟨rfl, hb⟩; refine ⟨_, rfl, ?_⟩; have n0_ := Aside0.mk (Kd.V_below (vL HO_406001.out) hb); have n1_ := Aside0.mk (Kd.V_below (vL HO_414001.out) hb); have n2_ := Aside0.mk (blk_below BK405.out hb); have n3_ := Aside0.mk (blk_below BK413.out hb); have n4_ := Aside0.mk (below_step (hL HB.out) hb); clear HO_406001; clear HO_414001; clear BK405; clear BK413; clear HB; have HO_406001 := n0_; have HO_414001 := n1_; have BK405 := n2_; have BK413 := n3_; have HB := n4_; clear n0_ n1_ n2_ n3_ n4_; (try clear hb); (try clear hb2); (try clear hk); (try clear hi)) | ((with_reducible refine gate_dst (N := 22) rfl ?_); (try (refine gate_guard (by rfl) ?_; dsimp only)); refine box_event ?hg (N := 22) ?hd (cs := #[.string (⟨#[]⟩ : ByteArray), .string (⟨#[]⟩ : ByteArray)]) (t := 30) ?hr ?_; (case hd => rfl); (case hg => rfl); (case hr => first | (go_simp; done) | (go_simp; rfl)); intro gb433 hg w108 hbox hb; have n0_ := Aside0.mk (Kd.V_below (Kd.V_elderB (vL HO_406001.out) gb433 (Nat.le_of_eq hg.symm)) hb); have n1_ := Aside0.mk (Kd.V_below (Kd.V_elderB (vL HO_414001.out) gb433 (Nat.le_of_eq hg.symm)) hb); have n2_ := Aside0.mk (blk_below BK405.out hb); have n3_ := Aside0.mk (blk_below BK413.out hb); have n4_ := Aside0.mk (below_step (hL HB.out) hb); have n5_ := Aside0.mk (hbox); have n6_ := Above.mk ((by rw [hg]; exact (below_size (hL HB.out)) : w.heap.size ≤ gb433)); have n7_ := Above.mk ((by rw [hg]; exact (below_size (hL HB.out)) : w.heap.size ≤ gb433)); have n8_ := Aside0.mk ((by rw [hg]; exact Nat.ne_of_lt (blk_lt (g := gb405) (o := .cells #[.int .i64 x406000_2, .slice (some ad426) x406001_2.length co22] 24 (0, 0)) (bL BK405.out)) : gb405 ≠ gb433)); have n9_ := Aside0.mk ((by rw [hg]; exact Nat.ne_of_gt (blk_lt (g := gb405) (o := .cells #[.int .i64 x406000_2, .slice (some ad426) x406001_2.length co22] 24 (0, 0)) (bL BK405.out)) : gb433 ≠ gb405)); have n10_ := Aside0.mk ((by rw [hg]; exact Nat.ne_of_lt (blk_lt (g := gb413) (o := .cells #[.int .i64 t408, .slice (some ad429) t409.length co28] 24 (0, 0)) (bL BK413.out)) : gb413 ≠ gb433)); have n11_ := Aside0.mk ((by rw [hg]; exact Nat.ne_of_gt (blk_lt (g := gb413) (o := .cells #[.int .i64 t408, .slice (some ad429) t409.length co28] 24 (0, 0)) (bL BK413.out)) : gb433 ≠ gb413)); clear HO_406001; clear HO_414001; clear BK405; clear BK413; clear HB; have HO_406001 := n0_; have HO_414001 := n1_; have BK405 := n2_; have BK413 := n3_; have HB := n4_; have BK433 := n5_; have GW433 := n6_; have GE433 := n7_; have NB405_433 := n8_; have NB433_405 := n9_; have NB413_433 := n10_; have NB433_413 := n11_; clear n0_ n1_ n2_ n3_ n4_ n5_ n6_ n7_ n8_ n9_ n10_ n11_; clear hb hbox hg; have hnb109 := NB433_405.out; have hnc109 := NB405_433.out; have hnb110 := NB433_413.out; have hnc110 := NB413_433.out; have hcz111_0 : w108.cell? ⟨gb433, 0, none⟩ = some (.string (⟨#[]⟩ : ByteArray)) := (blk_cell BK433.out 0).trans rfl; have hcz111_1 : w108.cell? ⟨gb433, 1, none⟩ = some (.string (⟨#[]⟩ : ByteArray)) := (blk_cell BK433.out 1).trans rfl; have hfz111_0 := blk_frozen BK433.out 0; have hfz111_1 := blk_frozen BK433.out 1))
          have n0_ : Aside0 (Kd.V k46 46 ((w108.setCell ⟨gb433, 0, none⟩ (.string t430)).setCell ⟨gb433, 1, none⟩ (.string t431)) w.heap.size (fun k_ => k_ ≠ gb405 ∧ k_ ≠ gb413 ∧ k_ ≠ gb433) (.slice (some ad426) x406001_2.length co22) x406001_2) := ⟨by (with_reducible repeat (first | apply Kd.V_alloc | apply Kd.V_drewN | apply Kd.V_drew)); exact Kd.V_mono (Kd.V_far (p := ⟨gb433, 1, none⟩) (Kd.V_far (p := ⟨gb433, 0, none⟩) (Kd.V_mono HO_406001.out (fun k_ hk => (⟨hk, hk.2⟩ : _ ∧ k_ ≠ gb433))) (fun _ hk => hk.2) (.string t430)) (fun _ hk => hk.2) (.string t431)) (fun _ hk => ⟨hk.1.1.1, ⟨hk.1.1.2, hk.1.2⟩⟩)⟩
          have n1_ : Aside0 (Kd.V k46 46 ((w108.setCell ⟨gb433, 0, none⟩ (.string t430)).setCell ⟨gb433, 1, none⟩ (.string t431)) w.heap.size (fun k_ => k_ ≠ gb405 ∧ k_ ≠ gb413 ∧ k_ ≠ gb433) (.slice (some ad429) t409.length co28) t409) := ⟨by (with_reducible repeat (first | apply Kd.V_alloc | apply Kd.V_drewN | apply Kd.V_drew)); exact Kd.V_mono (Kd.V_far (p := ⟨gb433, 1, none⟩) (Kd.V_far (p := ⟨gb433, 0, none⟩) (Kd.V_mono HO_414001.out (fun k_ hk => (⟨hk, hk.2⟩ : _ ∧ k_ ≠ gb433))) (fun _ hk => hk.2) (.string t430)) (fun _ hk => hk.2) (.string t431)) (fun _ hk => ⟨hk.1.1.1, ⟨hk.1.1.2, hk.1.2⟩⟩)⟩
          have n2_ : Aside0 (((w108.setCell ⟨gb433, 0, none⟩ (.string t430)).setCell ⟨gb433, 1, none⟩ (.string t431)).heap[gb405]? = some (.cells #[.int .i64 x406000_2, .slice (some ad426) x406001_2.length co22] 24 (0, 0))) := ⟨by (with_reducible repeat (first | refine blk_drewN ?_ _ | refine blk_drew ?_ | refine blk_alloc ?_ _)); refine blk_far ?_ NB405_433.out _; (with_reducible repeat (first | refine blk_drewN ?_ _ | refine blk_drew ?_ | refine blk_alloc ?_ _)); refine blk_far ?_ NB405_433.out _; exact bL BK405.out⟩
          have n3_ : Aside0 (((w108.setCell ⟨gb433, 0, none⟩ (.string t430)).setCell ⟨gb433, 1, none⟩ (.string t431)).heap[gb413]? = some (.cells #[.int .i64 t408, .slice (some ad429) t409.length co28] 24 (0, 0))) := ⟨by (with_reducible repeat (first | refine blk_drewN ?_ _ | refine blk_drew ?_ | refine blk_alloc ?_ _)); refine blk_far ?_ NB413_433.out _; (with_reducible repeat (first | refine blk_drewN ?_ _ | refine blk_drew ?_ | refine blk_alloc ?_ _)); refine blk_far ?_ NB413_433.out _; exact bL BK413.out⟩
          have n4_ : Aside0 (((w108.setCell ⟨gb433, 0, none⟩ (.string t430)).setCell ⟨gb433, 1, none⟩ (.string t431)).heap[gb433]? = some (.cells #[.string t430, .string t431] 30 (0, 0))) := ⟨by (with_reducible repeat (first | refine blk_drewN ?_ _ | refine blk_drew ?_ | refine blk_alloc ?_ _)); refine blk_put (cs := #[.string t430, .string (⟨#[]⟩ : ByteArray)]) ?_ 1 _ rfl; (with_reducible repeat (first | refine blk_drewN ?_ _ | refine blk_drew ?_ | refine blk_alloc ?_ _)); refine blk_put (cs := #[.string (⟨#[]⟩ : ByteArray), .string (⟨#[]⟩ : ByteArray)]) ?_ 0 _ rfl; exact bL BK433.out⟩
          have n5_ : Aside0 (Below w.heap.size w ((w108.setCell ⟨gb433, 0, none⟩ (.string t430)).setCell ⟨gb433, 1, none⟩ (.string t431))) := ⟨hL HB.out⟩
          (try clear HO_406001)
          (try clear HO_414001)
          (try clear BK405)
          (try clear BK413)
          (try clear BK433)
          (try clear HB)
          generalize ((w108.setCell ⟨gb433, 0, none⟩ (.string t430)).setCell ⟨gb433, 1, none⟩ (.string t431)) = w112 at n0_ n1_ n2_ n3_ n4_ n5_ ⊢
          have HO_406001 := n0_
          have HO_414001 := n1_
          have BK405 := n2_
          have BK413 := n3_
          have BK433 := n4_
          have HB := n5_
          clear n0_ n1_ n2_ n3_ n4_ n5_
          have n0_ := Aside0.mk (Kd.V_drew HO_406001.out)
          have n1_ := Aside0.mk (Kd.V_drew HO_414001.out)
          have n2_ := Aside0.mk (blk_drew BK405.out)
          have n3_ := Aside0.mk (blk_drew BK413.out)
          have n4_ := Aside0.mk (blk_drew BK433.out)
          have n5_ := Aside0.mk (below_drew1 HB.out)
          clear HO_406001
          clear HO_414001
          clear BK405
          clear BK413
          clear BK433
          clear HB
          have HO_406001 := n0_
          have HO_414001 := n1_
          have BK405 := n2_
          have BK413 := n3_
          have BK433 := n4_
          have HB := n5_
          clear n0_ n1_ n2_ n3_ n4_ n5_
          have p434 : 0 ≤ (x14_4 : Int) := of_decide_eq_true (by first | (with_reducible assumption) | assumption)
          have q434 : x14_4 < (l2.length : Int) := of_decide_eq_true (by first | (with_reducible assumption) | assumption)
          obtain ⟨ad434, e434, hx434_0⟩ := Kd.at_string HR2.out x14_4 p434 q434
          have hw434_0 := hx434_0
          obtain rfl : ad419 = ad434 := (by injection e434)
          replace hx434_0 := (HB.out.cell (World.block_lt_of_cell? w _ hx434_0)).trans hx434_0
          replace p434 := eq_true p434
          replace q434 := eq_true q434
          have p435 : 0 ≤ (x14_4 : Int) := of_decide_eq_true (by first | (with_reducible assumption) | assumption)
          have q435 : x14_4 < (l2.length : Int) := of_decide_eq_true (by first | (with_reducible assumption) | assumption)
          obtain ⟨ad435, e435, hx435_0⟩ := Kd.at_string HR2.out x14_4 p435 q435
          have hw435_0 := hx435_0
          obtain rfl : ad419 = ad435 := (by injection e435)
          replace hx435_0 := (HB.out.cell (World.block_lt_of_cell? w _ hx435_0)).trans hx435_0
          replace p435 := eq_true p435
          replace q435 := eq_true q435
          refine start_ (n := 24) (S := fun w' => w'.cell? ⟨gb433, 0, none⟩ = some (.string t430) ∧ w'.cell? ⟨gb433, 1, none⟩ = some (.string t431) ∧ w'.cell? (ad419.add (x14_4).toNat) = some (.string (rdOf ByteArray.empty l2 x14_4)) ∧ w'.cell? (ad419.add (x14_4).toNat) = some (.string (rdOf ByteArray.empty l2 x14_4))) (ds := []) #[false, false, false, false, false, false, false, false, false, false, false, false, false, false, false, false, false, false, false, false, false, false, false, false] (by as_aux_lemma => kernel_rfl) rfl rfl ⟨(blk_cell BK433.out 0).trans rfl, (blk_cell BK433.out 1).trans rfl, ((HB.out.cell (World.block_lt_of_cell? w _ hw434_0)).trans hw434_0), ((HB.out.cell (World.block_lt_of_cell? w _ hw435_0)).trans hw435_0)⟩ (fun hHeld => ?_); refine with_tabW shelfmarklaw12_AtlasTiles.tab39 shelfmarklaw12_AtlasTiles.bits39 (fun HT_ HW_ => ?_)
          generalize w112.drew = w113 at HO_406001 HO_414001 BK405 BK413 BK433 HB hx434_0 hx435_0 hHeld ⊢
          refine pure_ (i := 0) (N := some 213) (v := ?_) (a' := ?_) #[true, false, false, false, false, false, false, false, false, false, false, false, false, false, false, false, false, false, false, false, false, false, false, false] rfl rfl (any_of HT_.out (by as_aux_lemma => kernel_rfl)) (fun _ _ _ h => h) (Or.inl ⟨by rfl, ?_⟩) ?_ ?_
          rotate_left
          ·intro w'
           go_simp
           with_reducible rfl
          rotate_left
          ·simp only [Act.put, sT, sZ, sS, i64_w, i32_w]
           rfl
          refine pure_ (i := 1) (N := some 214) (v := ?_) (a' := ?_) #[true, true, false, false, false, false, false, false, false, false, false, false, false, false, false, false, false, false, false, false, false, false, false, false] rfl rfl (any_of HT_.out (by as_aux_lemma => kernel_rfl)) (fun _ _ _ h => h) (Or.inl ⟨by rfl, ?_⟩) ?_ ?_
          rotate_left
          ·intro w'
           go_simp
           with_reducible rfl
          rotate_left
          ·simp only [Act.put, sT, sZ, sS, i64_w, i32_w]
           rfl
          refine pure_ (i := 2) (N := some 215) (v := ?_) (a' := ?_) #[true, true, true, false, false, false, false, false, false, false, false, false, false, false, false, false, false, false, false, false, false, false, false, false] rfl rfl (any_of HT_.out (by as_aux_lemma => kernel_rfl)) (fun _ _ _ h => h) (Or.inl ⟨by rfl, ?_⟩) ?_ ?_
          rotate_left
          ·intro w'
           go_simp
           with_reducible rfl
          rotate_left
          ·simp only [Act.put, sT, sZ, sS, i64_w, i32_w]
           rfl
          refine pure_ (i := 3) (N := some 216) (v := ?_) (a' := ?_) #[true, true, true, true, false, false, false, false, false, false, false, false, false, false, false, false, false, false, false, false, false, false, false, false] rfl rfl (any_of HT_.out (by as_aux_lemma => kernel_rfl)) (fun _ _ _ h => h) (Or.inl ⟨by rfl, ?_⟩) ?_ ?_
          rotate_left
          ·intro w'
           go_simp
           with_reducible rfl
          rotate_left
          ·simp only [Act.put, sT, sZ, sS, i64_w, i32_w]
           rfl
          refine pure_ (i := 4) (N := some 217) (v := ?_) (a' := ?_) #[true, true, true, true, true, false, false, false, false, false, false, false, false, false, false, false, false, false, false, false, false, false, false, false] rfl rfl (any_of HT_.out (by as_aux_lemma => kernel_rfl)) (fun _ _ _ h => h) (Or.inl ⟨by rfl, ?_⟩) ?_ ?_
          rotate_left
          ·intro w'
           go_simp
           with_reducible rfl
          rotate_left
          ·simp only [Act.put, sT, sZ, sS, i64_w, i32_w]
           rfl
          refine pure_ (i := 6) (N := some 219) (v := ?_) (a' := ?_) #[true, true, true, true, true, false, true, false, false, false, false, false, false, false, false, false, false, false, false, false, false, false, false, false] rfl rfl (any_of HT_.out (by as_aux_lemma => kernel_rfl)) (fun _ _ _ h => h) (Or.inl ⟨by rfl, ?_⟩) ?_ ?_
          rotate_left
          ·intro w'
           go_simp
           with_reducible rfl
          rotate_left
          ·simp only [Act.put, sT, sZ, sS, i64_w, i32_w]
           rfl
          refine take_ (i := 5) (N := some 218) (v := ?_) (a' := ?_) #[true, true, true, true, true, true, true, false, false, false, false, false, false, false, false, false, false, false, false, false, false, false, false, false] rfl rfl (take_ofW HT_.out HW_.out (by as_aux_lemma => kernel_rfl)) (fun _ _ _ h => h) (Or.inl ⟨by rfl, ?_⟩) hHeld ?_ ?_
          rotate_left
          ·rintro w' ⟨s0, s1, s2, s3⟩
           go_simp
           with_reducible rfl
          rotate_left
          ·simp only [Act.put, sT, sZ, sS, i64_w, i32_w]
           rfl
          refine take_ (i := 7) (N := some 220) (v := ?_) (a' := ?_) #[true, true, true, true, true, true, true, true, false, false, false, false, false, false, false, false, false, false, false, false, false, false, false, false] rfl rfl (take_ofW HT_.out HW_.out (by as_aux_lemma => kernel_rfl)) (fun _ _ _ h => h) (Or.inl ⟨by rfl, ?_⟩) hHeld ?_ ?_
          rotate_left
          ·rintro w' ⟨s0, s1, s2, s3⟩
           go_simp
           with_reducible rfl
          rotate_left
          ·simp only [Act.put, sT, sZ, sS, i64_w, i32_w]
           rfl
          refine pure_ (i := 8) (N := some 221) (v := ?_) (a' := ?_) #[true, true, true, true, true, true, true, true, true, false, false, false, false, false, false, false, false, false, false, false, false, false, false, false] rfl rfl (any_of HT_.out (by as_aux_lemma => kernel_rfl)) (fun _ _ _ h => h) (Or.inl ⟨by rfl, ?_⟩) ?_ ?_
          rotate_left
          ·intro w'
           go_simp
           with_reducible rfl
          rotate_left
          ·simp only [Act.put, sT, sZ, sS, i64_w, i32_w]
           rfl
          refine pure_ (i := 9) (N := some 222) (v := ?_) (a' := ?_) #[true, true, true, true, true, true, true, true, true, true, false, false, false, false, false, false, false, false, false, false, false, false, false, false] rfl rfl (any_of HT_.out (by as_aux_lemma => kernel_rfl)) (fun _ _ _ h => h) (Or.inl ⟨by rfl, ?_⟩) ?_ ?_
          rotate_left
          ·intro w'
           go_simp
           with_reducible rfl
          rotate_left
          ·simp only [Act.put, sT, sZ, sS, i64_w, i32_w]
           rfl
          refine pure_ (i := 10) (N := some 223) (v := ?_) (a' := ?_) #[true, true, true, true, true, true, true, true, true, true, true, false, false, false, false, false, false, false, false, false, false, false, false, false] rfl rfl (any_of HT_.out (by as_aux_lemma => kernel_rfl)) (fun _ _ _ h => h) (Or.inl ⟨by rfl, ?_⟩) ?_ ?_
          rotate_left
          ·intro w'
           go_simp
           with_reducible rfl
          rotate_left
          ·simp only [Act.put, sT, sZ, sS, i64_w, i32_w]
           rfl
          refine pure_ (i := 11) (N := some 224) (v := ?_) (a' := ?_) #[true, true, true, true, true, true, true, true, true, true, true, true, false, false, false, false, false, false, false, false, false, false, false, false] rfl rfl (any_of HT_.out (by as_aux_lemma => kernel_rfl)) (fun _ _ _ h => h) (Or.inl ⟨by rfl, ?_⟩) ?_ ?_
          rotate_left
          ·intro w'
           go_simp
           with_reducible rfl
          rotate_left
          ·simp only [Act.put, sT, sZ, sS, i64_w, i32_w]
           rfl
          refine take_ (i := 12) (N := some 225) (v := ?_) (a' := ?_) #[true, true, true, true, true, true, true, true, true, true, true, true, true, false, false, false, false, false, false, false, false, false, false, false] rfl rfl (take_ofW HT_.out HW_.out (by as_aux_lemma => kernel_rfl)) (fun _ _ _ h => h) (Or.inl ⟨by rfl, ?_⟩) hHeld ?_ ?_
          rotate_left
          ·rintro w' ⟨s0, s1, s2, s3⟩
           go_simp
           with_reducible rfl
          rotate_left
          ·simp only [Act.put, sT, sZ, sS, i64_w, i32_w]
           rfl
          refine pure_ (i := 13) (N := some 226) (v := ?_) (a' := ?_) #[true, true, true, true, true, true, true, true, true, true, true, true, true, true, false, false, false, false, false, false, false, false, false, false] rfl rfl (any_of HT_.out (by as_aux_lemma => kernel_rfl)) (fun _ _ _ h => h) (Or.inl ⟨by rfl, ?_⟩) ?_ ?_
          rotate_left
          ·intro w'
           go_simp
           with_reducible rfl
          rotate_left
          ·simp only [Act.put, sT, sZ, sS, i64_w, i32_w]
           rfl
          refine pure_ (i := 14) (N := some 227) (v := ?_) (a' := ?_) #[true, true, true, true, true, true, true, true, true, true, true, true, true, true, true, false, false, false, false, false, false, false, false, false] rfl rfl (any_of HT_.out (by as_aux_lemma => kernel_rfl)) (fun _ _ _ h => h) (Or.inl ⟨by rfl, ?_⟩) ?_ ?_
          rotate_left
          ·intro w'
           go_simp
           with_reducible rfl
          rotate_left
          ·simp only [Act.put, sT, sZ, sS, i64_w, i32_w]
           rfl
          refine pure_ (i := 15) (N := some 228) (v := ?_) (a' := ?_) #[true, true, true, true, true, true, true, true, true, true, true, true, true, true, true, true, false, false, false, false, false, false, false, false] rfl rfl (any_of HT_.out (by as_aux_lemma => kernel_rfl)) (fun _ _ _ h => h) (Or.inl ⟨by rfl, ?_⟩) ?_ ?_
          rotate_left
          ·intro w'
           go_simp
           with_reducible rfl
          rotate_left
          ·simp only [Act.put, sT, sZ, sS, i64_w, i32_w]
           rfl
          refine pure_ (i := 16) (N := some 229) (v := ?_) (a' := ?_) #[true, true, true, true, true, true, true, true, true, true, true, true, true, true, true, true, true, false, false, false, false, false, false, false] rfl rfl (any_of HT_.out (by as_aux_lemma => kernel_rfl)) (fun _ _ _ h => h) (Or.inl ⟨by rfl, ?_⟩) ?_ ?_
          rotate_left
          ·intro w'
           go_simp
           with_reducible rfl
          rotate_left
          ·simp only [Act.put, sT, sZ, sS, i64_w, i32_w]
           rfl
          refine pure_ (i := 17) (N := some 230) (v := ?_) (a' := ?_) #[true, true, true, true, true, true, true, true, true, true, true, true, true, true, true, true, true, true, false, false, false, false, false, false] rfl rfl (any_of HT_.out (by as_aux_lemma => kernel_rfl)) (fun _ _ _ h => h) (Or.inl ⟨by rfl, ?_⟩) ?_ ?_
          rotate_left
          ·intro w'
           go_simp
           with_reducible rfl
          rotate_left
          ·simp only [Act.put, sT, sZ, sS, i64_w, i32_w]
           rfl
          refine pure_ (i := 19) (N := some 232) (v := ?_) (a' := ?_) #[true, true, true, true, true, true, true, true, true, true, true, true, true, true, true, true, true, true, false, true, false, false, false, false] rfl rfl (any_of HT_.out (by as_aux_lemma => kernel_rfl)) (fun _ _ _ h => h) (Or.inl ⟨by rfl, ?_⟩) ?_ ?_
          rotate_left
          ·intro w'
           go_simp
           with_reducible rfl
          rotate_left
          ·simp only [Act.put, sT, sZ, sS, i64_w, i32_w]
           rfl
          refine take_ (i := 18) (N := some 231) (v := ?_) (a' := ?_) #[true, true, true, true, true, true, true, true, true, true, true, true, true, true, true, true, true, true, true, true, false, false, false, false] rfl rfl (take_ofW HT_.out HW_.out (by as_aux_lemma => kernel_rfl)) (fun _ _ _ h => h) (Or.inl ⟨by rfl, ?_⟩) hHeld ?_ ?_
          rotate_left
          ·rintro w' ⟨s0, s1, s2, s3⟩
           go_simp
           with_reducible rfl
          rotate_left
          ·simp only [Act.put, sT, sZ, sS, i64_w, i32_w]
           rfl
          refine take_ (i := 20) (N := some 233) (v := ?_) (a' := ?_) #[true, true, true, true, true, true, true, true, true, true, true, true, true, true, true, true, true, true, true, true, true, false, false, false] rfl rfl (take_ofW HT_.out HW_.out (by as_aux_lemma => kernel_rfl)) (fun _ _ _ h => h) (Or.inl ⟨by rfl, ?_⟩) hHeld ?_ ?_
          rotate_left
          ·rintro w' ⟨s0, s1, s2, s3⟩
           go_simp
           with_reducible rfl
          rotate_left
          ·simp only [Act.put, sT, sZ, sS, i64_w, i32_w]
           rfl
          refine pure_ (i := 21) (N := some 234) (v := ?_) (a' := ?_) #[true, true, true, true, true, true, true, true, true, true, true, true, true, true, true, true, true, true, true, true, true, true, false, false] rfl rfl (any_of HT_.out (by as_aux_lemma => kernel_rfl)) (fun _ _ _ h => h) (Or.inl ⟨by rfl, ?_⟩) ?_ ?_
          rotate_left
          ·intro w'
           go_simp
           with_reducible rfl
          rotate_left
          ·simp only [Act.put, sT, sZ, sS, i64_w, i32_w]
           rfl
          refine pure_ (i := 22) (N := some 235) (v := ?_) (a' := ?_) #[true, true, true, true, true, true, true, true, true, true, true, true, true, true, true, true, true, true, true, true, true, true, true, false] rfl rfl (any_of HT_.out (by as_aux_lemma => kernel_rfl)) (fun _ _ _ h => h) (Or.inl ⟨by rfl, ?_⟩) ?_ ?_
          rotate_left
          ·intro w'
           go_simp
           with_reducible rfl
          rotate_left
          ·simp only [Act.put, sT, sZ, sS, i64_w, i32_w]
           rfl
          refine pure_ (i := 23) (N := some 236) (v := ?_) (a' := ?_) #[true, true, true, true, true, true, true, true, true, true, true, true, true, true, true, true, true, true, true, true, true, true, true, true] rfl rfl (any_of HT_.out (by as_aux_lemma => kernel_rfl)) (fun _ _ _ h => h) (Or.inl ⟨by rfl, ?_⟩) ?_ ?_
          rotate_left
          ·intro w'
           go_simp
           with_reducible rfl
          rotate_left
          ·simp only [Act.put, sT, sZ, sS, i64_w, i32_w]
           rfl
          refine done_ (done_of HT_.out (by as_aux_lemma => kernel_rfl)) ?_
          try go_wp2
          go_roundg k8
          case measure => have := HJ5.out; have := HK2.out; have := HJ20.out; have := HK4.out; have := HJ45.out; have := HJ63.out; have := HJ69.out; have := HK8.out; omega
          case rel => exact ⟨(wrap64 (x20_8 + 1)), (wrap64 (x21_8 + 1)), (by first | rfl | (simp; done) | (simp [*]; done) | (simp [ne_nil_bytes]; done) | (simp [eq_nil_bytes]; done)), (by first | rfl | (simp; done) | (simp [*]; done) | (simp [ne_nil_bytes]; done) | (simp [eq_nil_bytes]; done)), H', ⟨by have := HJ5.out; have := HK2.out; have := HJ20.out; have := HK4.out; have := HJ45.out; have := HJ63.out; have := HJ69.out; have := HK8.out; omega⟩, ⟨by (with_reducible repeat (first | apply Kd.V_alloc | apply Kd.V_drewN | apply Kd.V_drew)); exact Kd.V_mono HO_406001.out (fun _ hk => ⟨hk.1, hk.2.1⟩)⟩, ⟨by (with_reducible repeat (first | apply Kd.V_alloc | apply Kd.V_drewN | apply Kd.V_drew)); exact Kd.V_mono HO_414001.out (fun _ hk => ⟨hk.1, hk.2.1⟩)⟩, ⟨by exact bL BK405.out⟩, ⟨by exact bL BK413.out⟩, ⟨hL HB.out⟩⟩
         rw [if_neg c104] at H
         have c104b0 : (Op.bytesLess ((rdOf ByteArray.empty l2 x14_4).toList) t431.toList) = false := by simpa using c104
         clear c104
         have H' := Aside0.mk H
         clear H
         have hnb114 := NB413_405.out
         have hnc114 := NB405_413.out
         have hcz115_0 : wr.cell? ⟨gb413, 0, none⟩ = some (.int .i64 t408) := (blk_cell BK413.out 0).trans rfl
         have hcz115_1 : wr.cell? ⟨gb413, 1, none⟩ = some (.slice (some ad429) t409.length co28) := (blk_cell BK413.out 1).trans rfl
         have hfz115_0 := blk_frozen BK413.out 0
         have hfz115_1 := blk_frozen BK413.out 1
         try go_wp2_with (first | ((with_reducible refine gate_callee (f := 13) rfl ?_); refine goesL_ (some 210) rfl rfl Try.func13 (by as_aux_lemma => kernel_rfl) rfl #[.agg #[.int .i64 t408, .slice (some ad429) t409.length co28], .int .i64 x21_8] rfl (by (try simp only [List.map_toArray, List.map_cons, List.map_nil]); first | done | rfl | (simp only [List.length_drop, List.length_take]; rfl)) ?_; (with_reducible refine (atlas_Of.calls k8 t408 _ _ t409 x21_8 t430 t431 true _ ?side1 ?side2 A80.out).mono ?_); (case side1 => repeat (first | exact (Kd.V_reads' HO_414001.out).2.2 | (with_reducible refine Kd.C_alloc ?_ _) | (with_reducible refine Kd.C_drewN ?_ _) | (with_reducible refine Kd.C_drew ?_))); (case side2 => exact (Kd.V_reads' HO_414001.out).2.1); rintro e w116 ⟨rfl, hb⟩; refine ⟨_, rfl, ?_⟩; have n0_ := Aside0.mk (Kd.V_below (vL HO_406001.out) hb); have n1_ := Aside0.mk (Kd.V_below (vL HO_414001.out) hb); have n2_ := Aside0.mk (blk_below BK405.out hb); have n3_ := Aside0.mk (blk_below BK413.out hb); have n4_ := Aside0.mk (below_step (hL HB.out) hb); clear HO_406001; clear HO_414001; clear BK405; clear BK413; clear HB; have HO_406001 := n0_; have HO_414001 := n1_; have BK405 := n2_; have BK413 := n3_; have HB := n4_; clear n0_ n1_ n2_ n3_ n4_; (try clear hb); (try clear hb2); (try clear hk); (try clear hi)) | ((with_reducible refine gate_dst (N := 22) rfl ?_); (try (refine gate_guard (by rfl) ?_; dsimp only)); refine box_event ?hg (N := 22) ?hd (cs := #[.string (⟨#[]⟩ : ByteArray), .string (⟨#[]⟩ : ByteArray)]) (t := 30) ?hr ?_; (case hd => rfl); (case hg => rfl); (case hr => first | (go_simp; done) | (go_simp; rfl)); intro gb433 hg w117 hbox hb; have n0_ := Aside0.mk (Kd.V_below (Kd.V_elderB (vL HO_406001.out) gb433 (Nat.le_of_eq hg.symm)) hb); have n1_ := Aside0.mk (Kd.V_below (Kd.V_elderB (vL HO_414001.out) gb433 (Nat.le_of_eq hg.symm)) hb); have n2_ := Aside0.mk (blk_below BK405.out hb); have n3_ := Aside0.mk (blk_below BK413.out hb); have n4_ := Aside0.mk (below_step (hL HB.out) hb); have n5_ := Aside0.mk (hbox); have n6_ := Above.mk ((by rw [hg]; exact (below_size (hL HB.out)) : w.heap.size ≤ gb433)); have n7_ := Above.mk ((by rw [hg]; exact (below_size (hL HB.out)) : w.heap.size ≤ gb433)); have n8_ := Aside0.mk ((by rw [hg]; exact Nat.ne_of_lt (blk_lt (g := gb405) (o := .cells #[.int .i64 x406000_2, .slice (some ad426) x406001_2.length co22] 24 (0, 0)) (bL BK405.out)) : gb405 ≠ gb433)); have n9_ := Aside0.mk ((by rw [hg]; exact Nat.ne_of_gt (blk_lt (g := gb405) (o := .cells #[.int .i64 x406000_2, .slice (some ad426) x406001_2.length co22] 24 (0, 0)) (bL BK405.out)) : gb433 ≠ gb405)); have n10_ := Aside0.mk ((by rw [hg]; exact Nat.ne_of_lt (blk_lt (g := gb413) (o := .cells #[.int .i64 t408, .slice (some ad429) t409.length co28] 24 (0, 0)) (bL BK413.out)) : gb413 ≠ gb433)); have n11_ := Aside0.mk ((by rw [hg]; exact Nat.ne_of_gt (blk_lt (g := gb413) (o := .cells #[.int .i64 t408, .slice (some ad429) t409.length co28] 24 (0, 0)) (bL BK413.out)) : gb433 ≠ gb413)); clear HO_406001; clear HO_414001; clear BK405; clear BK413; clear HB; have HO_406001 := n0_; have HO_414001 := n1_; have BK405 := n2_; have BK413 := n3_; have HB := n4_; have BK433 := n5_; have GW433 := n6_; have GE433 := n7_; have NB405_433 := n8_; have NB433_405 := n9_; have NB413_433 := n10_; have NB433_413 := n11_; clear n0_ n1_ n2_ n3_ n4_ n5_ n6_ n7_ n8_ n9_ n10_ n11_; clear hb hbox hg; have hnb118 := NB433_405.out; have hnc118 := NB405_433.out; have hnb119 := NB433_413.out; have hnc119 := NB413_433.out; have hcz120_0 : w117.cell? ⟨gb433, 0, none⟩ = some (.string (⟨#[]⟩ : ByteArray)) := (blk_cell BK433.out 0).trans rfl; have hcz120_1 : w117.cell? ⟨gb433, 1, none⟩ = some (.string (⟨#[]⟩ : ByteArray)) := (blk_cell BK433.out 1).trans rfl; have hfz120_0 := blk_frozen BK433.out 0; have hfz120_1 := blk_frozen BK433.out 1))
         have n0_ : Aside0 (Kd.V k46 46 ((w117.setCell ⟨gb433, 0, none⟩ (.string t430)).setCell ⟨gb433, 1, none⟩ (.string t431)) w.heap.size (fun k_ => k_ ≠ gb405 ∧ k_ ≠ gb413 ∧ k_ ≠ gb433) (.slice (some ad426) x406001_2.length co22) x406001_2) := ⟨by (with_reducible repeat (first | apply Kd.V_alloc | apply Kd.V_drewN | apply Kd.V_drew)); exact Kd.V_mono (Kd.V_far (p := ⟨gb433, 1, none⟩) (Kd.V_far (p := ⟨gb433, 0, none⟩) (Kd.V_mono HO_406001.out (fun k_ hk => (⟨hk, hk.2⟩ : _ ∧ k_ ≠ gb433))) (fun _ hk => hk.2) (.string t430)) (fun _ hk => hk.2) (.string t431)) (fun _ hk => ⟨hk.1.1.1, ⟨hk.1.1.2, hk.1.2⟩⟩)⟩
         have n1_ : Aside0 (Kd.V k46 46 ((w117.setCell ⟨gb433, 0, none⟩ (.string t430)).setCell ⟨gb433, 1, none⟩ (.string t431)) w.heap.size (fun k_ => k_ ≠ gb405 ∧ k_ ≠ gb413 ∧ k_ ≠ gb433) (.slice (some ad429) t409.length co28) t409) := ⟨by (with_reducible repeat (first | apply Kd.V_alloc | apply Kd.V_drewN | apply Kd.V_drew)); exact Kd.V_mono (Kd.V_far (p := ⟨gb433, 1, none⟩) (Kd.V_far (p := ⟨gb433, 0, none⟩) (Kd.V_mono HO_414001.out (fun k_ hk => (⟨hk, hk.2⟩ : _ ∧ k_ ≠ gb433))) (fun _ hk => hk.2) (.string t430)) (fun _ hk => hk.2) (.string t431)) (fun _ hk => ⟨hk.1.1.1, ⟨hk.1.1.2, hk.1.2⟩⟩)⟩
         have n2_ : Aside0 (((w117.setCell ⟨gb433, 0, none⟩ (.string t430)).setCell ⟨gb433, 1, none⟩ (.string t431)).heap[gb405]? = some (.cells #[.int .i64 x406000_2, .slice (some ad426) x406001_2.length co22] 24 (0, 0))) := ⟨by (with_reducible repeat (first | refine blk_drewN ?_ _ | refine blk_drew ?_ | refine blk_alloc ?_ _)); refine blk_far ?_ NB405_433.out _; (with_reducible repeat (first | refine blk_drewN ?_ _ | refine blk_drew ?_ | refine blk_alloc ?_ _)); refine blk_far ?_ NB405_433.out _; exact bL BK405.out⟩
         have n3_ : Aside0 (((w117.setCell ⟨gb433, 0, none⟩ (.string t430)).setCell ⟨gb433, 1, none⟩ (.string t431)).heap[gb413]? = some (.cells #[.int .i64 t408, .slice (some ad429) t409.length co28] 24 (0, 0))) := ⟨by (with_reducible repeat (first | refine blk_drewN ?_ _ | refine blk_drew ?_ | refine blk_alloc ?_ _)); refine blk_far ?_ NB413_433.out _; (with_reducible repeat (first | refine blk_drewN ?_ _ | refine blk_drew ?_ | refine blk_alloc ?_ _)); refine blk_far ?_ NB413_433.out _; exact bL BK413.out⟩
         have n4_ : Aside0 (((w117.setCell ⟨gb433, 0, none⟩ (.string t430)).setCell ⟨gb433, 1, none⟩ (.string t431)).heap[gb433]? = some (.cells #[.string t430, .string t431] 30 (0, 0))) := ⟨by (with_reducible repeat (first | refine blk_drewN ?_ _ | refine blk_drew ?_ | refine blk_alloc ?_ _)); refine blk_put (cs := #[.string t430, .string (⟨#[]⟩ : ByteArray)]) ?_ 1 _ rfl; (with_reducible repeat (first | refine blk_drewN ?_ _ | refine blk_drew ?_ | refine blk_alloc ?_ _)); refine blk_put (cs := #[.string (⟨#[]⟩ : ByteArray), .string (⟨#[]⟩ : ByteArray)]) ?_ 0 _ rfl; exact bL BK433.out⟩
         have n5_ : Aside0 (Below w.heap.size w ((w117.setCell ⟨gb433, 0, none⟩ (.string t430)).setCell ⟨gb433, 1, none⟩ (.string t431))) := ⟨hL HB.out⟩
         (try clear HO_406001)
         (try clear HO_414001)
         (try clear BK405)
         (try clear BK413)
         (try clear BK433)
         (try clear HB)
         generalize ((w117.setCell ⟨gb433, 0, none⟩ (.string t430)).setCell ⟨gb433, 1, none⟩ (.string t431)) = w121 at n0_ n1_ n2_ n3_ n4_ n5_ ⊢
         have HO_406001 := n0_
         have HO_414001 := n1_
         have BK405 := n2_
         have BK413 := n3_
         have BK433 := n4_
         have HB := n5_
         clear n0_ n1_ n2_ n3_ n4_ n5_
         have n0_ := Aside0.mk (Kd.V_drew HO_406001.out)
         have n1_ := Aside0.mk (Kd.V_drew HO_414001.out)
         have n2_ := Aside0.mk (blk_drew BK405.out)
         have n3_ := Aside0.mk (blk_drew BK413.out)
         have n4_ := Aside0.mk (blk_drew BK433.out)
         have n5_ := Aside0.mk (below_drew1 HB.out)
         clear HO_406001
         clear HO_414001
         clear BK405
         clear BK413
         clear BK433
         clear HB
         have HO_406001 := n0_
         have HO_414001 := n1_
         have BK405 := n2_
         have BK413 := n3_
         have BK433 := n4_
         have HB := n5_
         clear n0_ n1_ n2_ n3_ n4_ n5_
         have p434 : 0 ≤ (x14_4 : Int) := of_decide_eq_true (by first | (with_reducible assumption) | assumption)
         have q434 : x14_4 < (l2.length : Int) := of_decide_eq_true (by first | (with_reducible assumption) | assumption)
         obtain ⟨ad434, e434, hx434_0⟩ := Kd.at_string HR2.out x14_4 p434 q434
         have hw434_0 := hx434_0
         obtain rfl : ad419 = ad434 := (by injection e434)
         replace hx434_0 := (HB.out.cell (World.block_lt_of_cell? w _ hx434_0)).trans hx434_0
         replace p434 := eq_true p434
         replace q434 := eq_true q434
         have p435 : 0 ≤ (x14_4 : Int) := of_decide_eq_true (by first | (with_reducible assumption) | assumption)
         have q435 : x14_4 < (l2.length : Int) := of_decide_eq_true (by first | (with_reducible assumption) | assumption)
         obtain ⟨ad435, e435, hx435_0⟩ := Kd.at_string HR2.out x14_4 p435 q435
         have hw435_0 := hx435_0
         obtain rfl : ad419 = ad435 := (by injection e435)
         replace hx435_0 := (HB.out.cell (World.block_lt_of_cell? w _ hx435_0)).trans hx435_0
         replace p435 := eq_true p435
         replace q435 := eq_true q435
         refine start_ (n := 24) (S := fun w' => w'.cell? ⟨gb433, 0, none⟩ = some (.string t430) ∧ w'.cell? ⟨gb433, 1, none⟩ = some (.string t431) ∧ w'.cell? (ad419.add (x14_4).toNat) = some (.string (rdOf ByteArray.empty l2 x14_4)) ∧ w'.cell? (ad419.add (x14_4).toNat) = some (.string (rdOf ByteArray.empty l2 x14_4))) (ds := []) #[false, false, false, false, false, false, false, false, false, false, false, false, false, false, false, false, false, false, false, false, false, false, false, false] (by as_aux_lemma => kernel_rfl) rfl rfl ⟨(blk_cell BK433.out 0).trans rfl, (blk_cell BK433.out 1).trans rfl, ((HB.out.cell (World.block_lt_of_cell? w _ hw434_0)).trans hw434_0), ((HB.out.cell (World.block_lt_of_cell? w _ hw435_0)).trans hw435_0)⟩ (fun hHeld => ?_); refine with_tabW shelfmarklaw12_AtlasTiles.tab39 shelfmarklaw12_AtlasTiles.bits39 (fun HT_ HW_ => ?_)
         generalize w121.drew = w122 at HO_406001 HO_414001 BK405 BK413 BK433 HB hx434_0 hx435_0 hHeld ⊢
         refine pure_ (i := 0) (N := some 213) (v := ?_) (a' := ?_) #[true, false, false, false, false, false, false, false, false, false, false, false, false, false, false, false, false, false, false, false, false, false, false, false] rfl rfl (any_of HT_.out (by as_aux_lemma => kernel_rfl)) (fun _ _ _ h => h) (Or.inl ⟨by rfl, ?_⟩) ?_ ?_
         rotate_left
         ·intro w'
          go_simp
          with_reducible rfl
         rotate_left
         ·simp only [Act.put, sT, sZ, sS, i64_w, i32_w]
          rfl
         refine pure_ (i := 1) (N := some 214) (v := ?_) (a' := ?_) #[true, true, false, false, false, false, false, false, false, false, false, false, false, false, false, false, false, false, false, false, false, false, false, false] rfl rfl (any_of HT_.out (by as_aux_lemma => kernel_rfl)) (fun _ _ _ h => h) (Or.inl ⟨by rfl, ?_⟩) ?_ ?_
         rotate_left
         ·intro w'
          go_simp
          with_reducible rfl
         rotate_left
         ·simp only [Act.put, sT, sZ, sS, i64_w, i32_w]
          rfl
         refine pure_ (i := 2) (N := some 215) (v := ?_) (a' := ?_) #[true, true, true, false, false, false, false, false, false, false, false, false, false, false, false, false, false, false, false, false, false, false, false, false] rfl rfl (any_of HT_.out (by as_aux_lemma => kernel_rfl)) (fun _ _ _ h => h) (Or.inl ⟨by rfl, ?_⟩) ?_ ?_
         rotate_left
         ·intro w'
          go_simp
          with_reducible rfl
         rotate_left
         ·simp only [Act.put, sT, sZ, sS, i64_w, i32_w]
          rfl
         refine pure_ (i := 3) (N := some 216) (v := ?_) (a' := ?_) #[true, true, true, true, false, false, false, false, false, false, false, false, false, false, false, false, false, false, false, false, false, false, false, false] rfl rfl (any_of HT_.out (by as_aux_lemma => kernel_rfl)) (fun _ _ _ h => h) (Or.inl ⟨by rfl, ?_⟩) ?_ ?_
         rotate_left
         ·intro w'
          go_simp
          with_reducible rfl
         rotate_left
         ·simp only [Act.put, sT, sZ, sS, i64_w, i32_w]
          rfl
         refine pure_ (i := 4) (N := some 217) (v := ?_) (a' := ?_) #[true, true, true, true, true, false, false, false, false, false, false, false, false, false, false, false, false, false, false, false, false, false, false, false] rfl rfl (any_of HT_.out (by as_aux_lemma => kernel_rfl)) (fun _ _ _ h => h) (Or.inl ⟨by rfl, ?_⟩) ?_ ?_
         rotate_left
         ·intro w'
          go_simp
          with_reducible rfl
         rotate_left
         ·simp only [Act.put, sT, sZ, sS, i64_w, i32_w]
          rfl
         refine pure_ (i := 6) (N := some 219) (v := ?_) (a' := ?_) #[true, true, true, true, true, false, true, false, false, false, false, false, false, false, false, false, false, false, false, false, false, false, false, false] rfl rfl (any_of HT_.out (by as_aux_lemma => kernel_rfl)) (fun _ _ _ h => h) (Or.inl ⟨by rfl, ?_⟩) ?_ ?_
         rotate_left
         ·intro w'
          go_simp
          with_reducible rfl
         rotate_left
         ·simp only [Act.put, sT, sZ, sS, i64_w, i32_w]
          rfl
         refine take_ (i := 5) (N := some 218) (v := ?_) (a' := ?_) #[true, true, true, true, true, true, true, false, false, false, false, false, false, false, false, false, false, false, false, false, false, false, false, false] rfl rfl (take_ofW HT_.out HW_.out (by as_aux_lemma => kernel_rfl)) (fun _ _ _ h => h) (Or.inl ⟨by rfl, ?_⟩) hHeld ?_ ?_
         rotate_left
         ·rintro w' ⟨s0, s1, s2, s3⟩
          go_simp
          with_reducible rfl
         rotate_left
         ·simp only [Act.put, sT, sZ, sS, i64_w, i32_w]
          rfl
         refine take_ (i := 7) (N := some 220) (v := ?_) (a' := ?_) #[true, true, true, true, true, true, true, true, false, false, false, false, false, false, false, false, false, false, false, false, false, false, false, false] rfl rfl (take_ofW HT_.out HW_.out (by as_aux_lemma => kernel_rfl)) (fun _ _ _ h => h) (Or.inl ⟨by rfl, ?_⟩) hHeld ?_ ?_
         rotate_left
         ·rintro w' ⟨s0, s1, s2, s3⟩
          go_simp
          with_reducible rfl
         rotate_left
         ·simp only [Act.put, sT, sZ, sS, i64_w, i32_w]
          rfl
         refine pure_ (i := 8) (N := some 221) (v := ?_) (a' := ?_) #[true, true, true, true, true, true, true, true, true, false, false, false, false, false, false, false, false, false, false, false, false, false, false, false] rfl rfl (any_of HT_.out (by as_aux_lemma => kernel_rfl)) (fun _ _ _ h => h) (Or.inl ⟨by rfl, ?_⟩) ?_ ?_
         rotate_left
         ·intro w'
          go_simp
          with_reducible rfl
         rotate_left
         ·simp only [Act.put, sT, sZ, sS, i64_w, i32_w]
          rfl
         refine pure_ (i := 9) (N := some 222) (v := ?_) (a' := ?_) #[true, true, true, true, true, true, true, true, true, true, false, false, false, false, false, false, false, false, false, false, false, false, false, false] rfl rfl (any_of HT_.out (by as_aux_lemma => kernel_rfl)) (fun _ _ _ h => h) (Or.inl ⟨by rfl, ?_⟩) ?_ ?_
         rotate_left
         ·intro w'
          go_simp
          with_reducible rfl
         rotate_left
         ·simp only [Act.put, sT, sZ, sS, i64_w, i32_w]
          rfl
         refine pure_ (i := 10) (N := some 223) (v := ?_) (a' := ?_) #[true, true, true, true, true, true, true, true, true, true, true, false, false, false, false, false, false, false, false, false, false, false, false, false] rfl rfl (any_of HT_.out (by as_aux_lemma => kernel_rfl)) (fun _ _ _ h => h) (Or.inl ⟨by rfl, ?_⟩) ?_ ?_
         rotate_left
         ·intro w'
          go_simp
          with_reducible rfl
         rotate_left
         ·simp only [Act.put, sT, sZ, sS, i64_w, i32_w]
          rfl
         refine pure_ (i := 11) (N := some 224) (v := ?_) (a' := ?_) #[true, true, true, true, true, true, true, true, true, true, true, true, false, false, false, false, false, false, false, false, false, false, false, false] rfl rfl (any_of HT_.out (by as_aux_lemma => kernel_rfl)) (fun _ _ _ h => h) (Or.inl ⟨by rfl, ?_⟩) ?_ ?_
         rotate_left
         ·intro w'
          go_simp
          with_reducible rfl
         rotate_left
         ·simp only [Act.put, sT, sZ, sS, i64_w, i32_w]
          rfl
         refine take_ (i := 12) (N := some 225) (v := ?_) (a' := ?_) #[true, true, true, true, true, true, true, true, true, true, true, true, true, false, false, false, false, false, false, false, false, false, false, false] rfl rfl (take_ofW HT_.out HW_.out (by as_aux_lemma => kernel_rfl)) (fun _ _ _ h => h) (Or.inl ⟨by rfl, ?_⟩) hHeld ?_ ?_
         rotate_left
         ·rintro w' ⟨s0, s1, s2, s3⟩
          go_simp
          with_reducible rfl
         rotate_left
         ·simp only [Act.put, sT, sZ, sS, i64_w, i32_w]
          rfl
         refine pure_ (i := 13) (N := some 226) (v := ?_) (a' := ?_) #[true, true, true, true, true, true, true, true, true, true, true, true, true, true, false, false, false, false, false, false, false, false, false, false] rfl rfl (any_of HT_.out (by as_aux_lemma => kernel_rfl)) (fun _ _ _ h => h) (Or.inl ⟨by rfl, ?_⟩) ?_ ?_
         rotate_left
         ·intro w'
          go_simp
          with_reducible rfl
         rotate_left
         ·simp only [Act.put, sT, sZ, sS, i64_w, i32_w]
          rfl
         refine pure_ (i := 14) (N := some 227) (v := ?_) (a' := ?_) #[true, true, true, true, true, true, true, true, true, true, true, true, true, true, true, false, false, false, false, false, false, false, false, false] rfl rfl (any_of HT_.out (by as_aux_lemma => kernel_rfl)) (fun _ _ _ h => h) (Or.inl ⟨by rfl, ?_⟩) ?_ ?_
         rotate_left
         ·intro w'
          go_simp
          with_reducible rfl
         rotate_left
         ·simp only [Act.put, sT, sZ, sS, i64_w, i32_w]
          rfl
         refine pure_ (i := 15) (N := some 228) (v := ?_) (a' := ?_) #[true, true, true, true, true, true, true, true, true, true, true, true, true, true, true, true, false, false, false, false, false, false, false, false] rfl rfl (any_of HT_.out (by as_aux_lemma => kernel_rfl)) (fun _ _ _ h => h) (Or.inl ⟨by rfl, ?_⟩) ?_ ?_
         rotate_left
         ·intro w'
          go_simp
          with_reducible rfl
         rotate_left
         ·simp only [Act.put, sT, sZ, sS, i64_w, i32_w]
          rfl
         refine pure_ (i := 16) (N := some 229) (v := ?_) (a' := ?_) #[true, true, true, true, true, true, true, true, true, true, true, true, true, true, true, true, true, false, false, false, false, false, false, false] rfl rfl (any_of HT_.out (by as_aux_lemma => kernel_rfl)) (fun _ _ _ h => h) (Or.inl ⟨by rfl, ?_⟩) ?_ ?_
         rotate_left
         ·intro w'
          go_simp
          with_reducible rfl
         rotate_left
         ·simp only [Act.put, sT, sZ, sS, i64_w, i32_w]
          rfl
         refine pure_ (i := 17) (N := some 230) (v := ?_) (a' := ?_) #[true, true, true, true, true, true, true, true, true, true, true, true, true, true, true, true, true, true, false, false, false, false, false, false] rfl rfl (any_of HT_.out (by as_aux_lemma => kernel_rfl)) (fun _ _ _ h => h) (Or.inl ⟨by rfl, ?_⟩) ?_ ?_
         rotate_left
         ·intro w'
          go_simp
          with_reducible rfl
         rotate_left
         ·simp only [Act.put, sT, sZ, sS, i64_w, i32_w]
          rfl
         refine pure_ (i := 19) (N := some 232) (v := ?_) (a' := ?_) #[true, true, true, true, true, true, true, true, true, true, true, true, true, true, true, true, true, true, false, true, false, false, false, false] rfl rfl (any_of HT_.out (by as_aux_lemma => kernel_rfl)) (fun _ _ _ h => h) (Or.inl ⟨by rfl, ?_⟩) ?_ ?_
         rotate_left
         ·intro w'
          go_simp
          with_reducible rfl
         rotate_left
         ·simp only [Act.put, sT, sZ, sS, i64_w, i32_w]
          rfl
         refine take_ (i := 18) (N := some 231) (v := ?_) (a' := ?_) #[true, true, true, true, true, true, true, true, true, true, true, true, true, true, true, true, true, true, true, true, false, false, false, false] rfl rfl (take_ofW HT_.out HW_.out (by as_aux_lemma => kernel_rfl)) (fun _ _ _ h => h) (Or.inl ⟨by rfl, ?_⟩) hHeld ?_ ?_
         rotate_left
         ·rintro w' ⟨s0, s1, s2, s3⟩
          go_simp
          with_reducible rfl
         rotate_left
         ·simp only [Act.put, sT, sZ, sS, i64_w, i32_w]
          rfl
         refine take_ (i := 20) (N := some 233) (v := ?_) (a' := ?_) #[true, true, true, true, true, true, true, true, true, true, true, true, true, true, true, true, true, true, true, true, true, false, false, false] rfl rfl (take_ofW HT_.out HW_.out (by as_aux_lemma => kernel_rfl)) (fun _ _ _ h => h) (Or.inl ⟨by rfl, ?_⟩) hHeld ?_ ?_
         rotate_left
         ·rintro w' ⟨s0, s1, s2, s3⟩
          go_simp
          with_reducible rfl
         rotate_left
         ·simp only [Act.put, sT, sZ, sS, i64_w, i32_w]
          rfl
         refine pure_ (i := 21) (N := some 234) (v := ?_) (a' := ?_) #[true, true, true, true, true, true, true, true, true, true, true, true, true, true, true, true, true, true, true, true, true, true, false, false] rfl rfl (any_of HT_.out (by as_aux_lemma => kernel_rfl)) (fun _ _ _ h => h) (Or.inl ⟨by rfl, ?_⟩) ?_ ?_
         rotate_left
         ·intro w'
          go_simp
          with_reducible rfl
         rotate_left
         ·simp only [Act.put, sT, sZ, sS, i64_w, i32_w]
          rfl
         refine pure_ (i := 22) (N := some 235) (v := ?_) (a' := ?_) #[true, true, true, true, true, true, true, true, true, true, true, true, true, true, true, true, true, true, true, true, true, true, true, false] rfl rfl (any_of HT_.out (by as_aux_lemma => kernel_rfl)) (fun _ _ _ h => h) (Or.inl ⟨by rfl, ?_⟩) ?_ ?_
         rotate_left
         ·intro w'
          go_simp
          with_reducible rfl
         rotate_left
         ·simp only [Act.put, sT, sZ, sS, i64_w, i32_w]
          rfl
         refine pure_ (i := 23) (N := some 236) (v := ?_) (a' := ?_) #[true, true, true, true, true, true, true, true, true, true, true, true, true, true, true, true, true, true, true, true, true, true, true, true] rfl rfl (any_of HT_.out (by as_aux_lemma => kernel_rfl)) (fun _ _ _ h => h) (Or.inl ⟨by rfl, ?_⟩) ?_ ?_
         rotate_left
         ·intro w'
          go_simp
          with_reducible rfl
         rotate_left
         ·simp only [Act.put, sT, sZ, sS, i64_w, i32_w]
          rfl
         refine done_ (done_of HT_.out (by as_aux_lemma => kernel_rfl)) ?_
         try go_wp2
         go_roundg k8
         case measure => have := HJ5.out; have := HK2.out; have := HJ20.out; have := HK4.out; have := HJ45.out; have := HJ63.out; have := HJ69.out; have := HK8.out; omega
         case rel => exact ⟨(x20_8), (wrap64 (x21_8 + 1)), (by first | rfl | (simp; done) | (simp [*]; done) | (simp [ne_nil_bytes]; done) | (simp [eq_nil_bytes]; done)), (by first | rfl | (simp; done) | (simp [*]; done) | (simp [ne_nil_bytes]; done) | (simp [eq_nil_bytes]; done)), H', ⟨by have := HJ5.out; have := HK2.out; have := HJ20.out; have := HK4.out; have := HJ45.out; have := HJ63.out; have := HJ69.out; have := HK8.out; omega⟩, ⟨by (with_reducible repeat (first | apply Kd.V_alloc | apply Kd.V_drewN | apply Kd.V_drew)); exact Kd.V_mono HO_406001.out (fun _ hk => ⟨hk.1, hk.2.1⟩)⟩, ⟨by (with_reducible repeat (first | apply Kd.V_alloc | apply Kd.V_drewN | apply Kd.V_drew)); exact Kd.V_mono HO_414001.out (fun _ hk => ⟨hk.1, hk.2.1⟩)⟩, ⟨by exact bL BK405.out⟩, ⟨by exact bL BK413.out⟩, ⟨hL HB.out⟩⟩

end Go.Proofs.Ytmgjccpolkhhhaa.PAll
