-- Written by a program of this session for this claim (mp.py, over the kit's print); Lean checks it.
import Derived.Test.YtkkfkccfnfjbiaaPGrx0
import Derived.Test.YtkkfkccfnfjbiaaPGrx5
import Derived.Test.YtkkfkccfnfjbiaaPGrx17
namespace Go.Proofs.Ytkkfkccfnfjbiaa.PGr
open Go.RowKit Go.Proofs.YtkkfkccfnfjbiaaW.PrintWords Go.Proofs.YtkkfkccfnfjbiaaW.PrintLast Go.Proofs.YtkkfkccfnfjbiaaW.PrintMore Go.Proofs.Ytkkfkccfnfjbiaa.Fv Go.Proofs.Ytkkfkccfnfjbiaa.Hl
attribute [local go_sem] max2_int min2_int max_two min_two max_three min_three max_four min_four str_gtr str_leq str_geq cell_set2   -- for this text's walks alone
set_option linter.unusedVariables false
set_option linter.unusedSimpArgs false

/-! ### run_Pack: function 23 -/
mutual
def run_Pack.l0 : Nat → List Int → List (S37) → Int → Int → Option (List Int × Int)
 | 0, _, _, _, _ => none
 | k + 1, x4, x14, x15, x16 => if x16 < x15 then (if 0 ≤ x16 then (if x16 < (x14.length : Int) then (if (rd_T37 x14 x16).f2 = true then (run_Pack.j1 k x4 1 x14 x15 x16 ((rd_T37 x14 x16).f0) ((rd_T37 x14 x16).f1) ((rd_T37 x14 x16).f2)) else (run_Pack.j1 k x4 0 x14 x15 x16 ((rd_T37 x14 x16).f0) ((rd_T37 x14 x16).f1) ((rd_T37 x14 x16).f2))) else (none)) else (none)) else (some (x4, 0))
def run_Pack.j1 : Nat → List Int → Int → List (S37) → Int → Int → ByteArray → ByteArray → Bool → Option (List Int × Int)
 | 0, _, _, _, _, _, _, _, _ => none
 | k + 1, x4, x7, x14, x15, x16, x260000, x260001, x260002 => (pack_Text.f k x260000).bind fun t260 => ((pack_Num.f k x7).bind fun t263 => ((pack_Text.f k x260001).bind fun t266 => ((pack_Join.f k (([t260, t263, t266] : List (List Int)))).bind fun t272 => (if x4.length + t272.length < 140737488355328 then (run_Pack.l0 k (x4 ++ t272) x14 x15 (wrap64 (x16 + 1))) else (none)))))
end
def run_Pack.f (k : Nat) (l0 : List (S37)) : Option (List Int × Int) := (run_Right.f k l0).bind fun t254 => (if t254 = true then ((pack_Num.f k (l0.length : Int)).bind fun t255 => (run_Pack.l0 k t255 l0 (l0.length : Int) 0)) else (some (([] : List Int), 3)))
theorem run_Pack.mono_l : ∀ k, (∀ y0 y1 y2 y3, LeO (run_Pack.l0 k y0 y1 y2 y3) (run_Pack.l0 (k + 1) y0 y1 y2 y3)) ∧ (∀ y0 y1 y2 y3 y4 y5 y6 y7, LeO (run_Pack.j1 k y0 y1 y2 y3 y4 y5 y6 y7) (run_Pack.j1 (k + 1) y0 y1 y2 y3 y4 y5 y6 y7))
 | 0 => ⟨fun _ _ _ _ r h => by simp [run_Pack.l0] at h, fun _ _ _ _ _ _ _ _ r h => by simp [run_Pack.j1] at h⟩
 | k + 1 => by
  obtain ⟨ih0, ih1⟩ := run_Pack.mono_l k
  refine ⟨?_, ?_⟩
  ·intro y0 y1 y2 y3
   unfold run_Pack.l0
   repeat' first
   | (with_reducible exact ih0 _ _ _ _)
   | (with_reducible exact ih1 _ _ _ _ _ _ _ _)
   | (with_reducible exact pack_Join.mono _ _)
   | (with_reducible exact pack_Num.mono _ _)
   | (with_reducible exact pack_Text.mono _ _)
   | (with_reducible exact run_Right.mono _ _)
   | (with_reducible exact LeO.refl _)
   | (with_reducible exact LeO.none _)
   | (with_reducible refine LeO.ite ?_ ?_)
   | (with_reducible refine LeO.bind ?_ (fun _ => ?_))
   | exact ih0 _ _ _ _
   | exact ih1 _ _ _ _ _ _ _ _
   | exact pack_Join.mono _ _
   | exact pack_Num.mono _ _
   | exact pack_Text.mono _ _
   | exact run_Right.mono _ _
   | exact LeO.none _
   | refine LeO.ite ?_ ?_
   | refine LeO.bind ?_ (fun _ => ?_)
  ·intro y0 y1 y2 y3 y4 y5 y6 y7
   unfold run_Pack.j1
   repeat' first
   | (with_reducible exact ih0 _ _ _ _)
   | (with_reducible exact ih1 _ _ _ _ _ _ _ _)
   | (with_reducible exact pack_Join.mono _ _)
   | (with_reducible exact pack_Num.mono _ _)
   | (with_reducible exact pack_Text.mono _ _)
   | (with_reducible exact run_Right.mono _ _)
   | (with_reducible exact LeO.refl _)
   | (with_reducible exact LeO.none _)
   | (with_reducible refine LeO.ite ?_ ?_)
   | (with_reducible refine LeO.bind ?_ (fun _ => ?_))
   | exact ih0 _ _ _ _
   | exact ih1 _ _ _ _ _ _ _ _
   | exact pack_Join.mono _ _
   | exact pack_Num.mono _ _
   | exact pack_Text.mono _ _
   | exact run_Right.mono _ _
   | exact LeO.none _
   | refine LeO.ite ?_ ?_
   | refine LeO.bind ?_ (fun _ => ?_)
theorem run_Pack.mono : ∀ a0 k, LeO (run_Pack.f k a0) (run_Pack.f (k + 1) a0) := by
 intro a0 k
 obtain ⟨ih0, ih1⟩ := run_Pack.mono_l k
 unfold run_Pack.f
 repeat' first
   | (with_reducible exact ih0 _ _ _ _)
   | (with_reducible exact ih1 _ _ _ _ _ _ _ _)
   | (with_reducible exact pack_Join.mono _ _)
   | (with_reducible exact pack_Num.mono _ _)
   | (with_reducible exact pack_Text.mono _ _)
   | (with_reducible exact run_Right.mono _ _)
   | (with_reducible exact LeO.refl _)
   | (with_reducible exact LeO.none _)
   | (with_reducible refine LeO.ite ?_ ?_)
   | (with_reducible refine LeO.bind ?_ (fun _ => ?_))
   | exact ih0 _ _ _ _
   | exact ih1 _ _ _ _ _ _ _ _
   | exact pack_Join.mono _ _
   | exact pack_Num.mono _ _
   | exact pack_Text.mono _ _
   | exact run_Right.mono _ _
   | exact LeO.none _
   | refine LeO.ite ?_ ?_
   | refine LeO.bind ?_ (fun _ => ?_)
def run_Pack.T10 : Bool × List (List Nat × List Nat) := (true, [([], []), ([], []), ([1], [1]), ([2], [2]), ([], []), ([4, 3], [4]), ([], []), ([6], [6]), ([7, 5], [7]), ([3, 5, 8], [3, 5, 8]), ([9, 8], [9]), ([0, 10, 10], [0, 10]), ([11, 11, 0, 1, 2, 3, 4, 5, 6, 7, 8, 9, 10, 11], [0, 11])])
def run_Pack.B10 : List Nat := [0, 0, 2, 6, 0, 30, 0, 64, 254, 510, 1022, 2047, 4095]
theorem run_Pack.tab10 : rtab .any (opsOf Try.f23 10) = run_Pack.T10 := by kernel_rfl
theorem run_Pack.bits10 : waitsOk run_Pack.T10.2 run_Pack.B10 = true := by kernel_rfl
set_option maxHeartbeats 8000000 in
set_option maxRecDepth 100000 in
theorem run_Pack.calls (k : Nat) (A0 : Option Addr) (c0 : Nat) (l0 : List (S37)) (r1 : List Int) (r2 : Int) (w : World) (hr0 : Kd.C k37 w A0 l0.length l0) (hc0 : l0.length ≤ c0) (h : run_Pack.f k l0 = some (r1, r2)) :
  Calls Try.prog 23 #[.slice A0 l0.length c0] w fun e w' => ∃ v0_ : Value, e = .returned (.tuple #[v0_, .int .i64 r2]) ∧ Kd.R (Kd.int .u8) 5 w' w.heap.size (fun _ => True) v0_ r1 ∧ Below w.heap.size w w' := by
 have hu37 := Try.underlying37
 have HR0 := Aside0.mk hr0
 have HC0 := Aside0.mk hc0
 clear hr0 hc0
 have HB := Aside0.mk (Below.refl w.heap.size w)
 have H : ((run_Right.f k l0).bind fun t254 => (if t254 = true then ((pack_Num.f k (l0.length : Int)).bind fun t255 => (run_Pack.l0 k t255 l0 (l0.length : Int) 0)) else (some (([] : List Int), 3)))) = some (r1, r2) := h
 clear h
 replace H := Option.bind_eq_some_iff.mp H
 obtain ⟨t254, A20, H⟩ := H
 replace H : (if t254 = true then ((pack_Num.f k (l0.length : Int)).bind fun t255 => (run_Pack.l0 k t255 l0 (l0.length : Int) 0)) else (some (([] : List Int), 3))) = some (r1, r2) := H
 have A2 := Aside0.mk A20
 clear A20
 by_cases c3 : t254 = true
 rotate_left
 ·replace c3 := Bool.eq_false_iff.mpr c3
  subst c3
  have H1 : (some (([] : List Int), 3)) = some (r1, r2) := by rw [if_neg (show ¬ (false = true) by decide)] at H; exact H
  clear H
  have H := H1
  clear H1
  simp only [Option.some.injEq, Prod.mk.injEq] at H
  obtain ⟨rfl, rfl⟩ := H
  go_enter Try.func23, Try.ntmps23
  go_wp2_with (first | ((with_reducible refine gate_callee (f := 28) rfl ?_); refine goesL_ (some 9) rfl rfl Try.func28 (by kernel_rfl) rfl #[.slice A0 l0.length c0] rfl (by (try simp only [List.map_toArray, List.map_cons, List.map_nil]); first | done | rfl | (simp only [List.length_drop, List.length_take]; rfl)) ?_; (with_reducible refine (run_Right.calls k _ _ l0 false _ ?side1 ?side2 A2.out).mono ?_); (case side1 => repeat (first | exact HR0.out | (with_reducible refine Kd.C_alloc ?_ _) | (with_reducible refine Kd.C_drewN ?_ _) | (with_reducible refine Kd.C_drew ?_))); (case side2 => exact HC0.out); rintro e w33 ⟨rfl, hb⟩; refine ⟨_, rfl, ?_⟩; have n0_ := Aside0.mk (below_step (hL HB.out) hb); clear HB; have HB := n0_; clear n0_; (try clear hb); (try clear hb2); (try clear hk); (try clear hi)))
  go_ret2
  exact ⟨_, by first | rfl | (simp [errW_none, errW_some] <;> rfl) | (simp [*, errW_none, errW_some] <;> rfl), by first | exact Kd.R_nil _ _ _ _ _ | exact Kd.N_nil _ _ _ _ _ | exact Kd.V_nil _ _ _ _ _ | exact Kd.Q_nil _ _ _ _ _ | exact Kd.S_nil _ _ _ _ _, hL HB.out⟩
 subst c3
 have H1 : ((pack_Num.f k (l0.length : Int)).bind fun t255 => (run_Pack.l0 k t255 l0 (l0.length : Int) 0)) = some (r1, r2) := by rw [if_pos rfl] at H; exact H
 clear H
 have H := H1
 clear H1
 replace H := Option.bind_eq_some_iff.mp H
 obtain ⟨t255, A40, H⟩ := H
 replace H : (run_Pack.l0 k t255 l0 (l0.length : Int) 0) = some (r1, r2) := H
 have A4 := Aside0.mk A40
 clear A40
 have H' := Aside0.mk H
 clear H
 go_enter Try.func23, Try.ntmps23
 go_wp2_with (first | ((with_reducible refine gate_callee (f := 28) rfl ?_); refine goesL_ (some 9) rfl rfl Try.func28 (by kernel_rfl) rfl #[.slice A0 l0.length c0] rfl (by (try simp only [List.map_toArray, List.map_cons, List.map_nil]); first | done | rfl | (simp only [List.length_drop, List.length_take]; rfl)) ?_; (with_reducible refine (run_Right.calls k _ _ l0 true _ ?side1 ?side2 A2.out).mono ?_); (case side1 => repeat (first | exact HR0.out | (with_reducible refine Kd.C_alloc ?_ _) | (with_reducible refine Kd.C_drewN ?_ _) | (with_reducible refine Kd.C_drew ?_))); (case side2 => exact HC0.out); rintro e w5 ⟨rfl, hb⟩; refine ⟨_, rfl, ?_⟩; have n0_ := Aside0.mk (below_step (hL HB.out) hb); clear HB; have HB := n0_; clear n0_; (try clear hb); (try clear hb2); (try clear hk); (try clear hi)) | ((with_reducible refine gate_callee (f := 36) rfl ?_); refine goesL_ (some 13) rfl rfl Try.func36 (by kernel_rfl) rfl #[.int .i64 (l0.length : Int)] rfl (by (try simp only [List.map_toArray, List.map_cons, List.map_nil]); first | done | rfl | (simp only [List.length_drop, List.length_take]; rfl)) ?_; (with_reducible refine (pack_Num.calls k (l0.length : Int) t255 _ A4.out).mono ?_); rintro e w6 ⟨v256, rfl, ho0, hb⟩; refine ⟨_, rfl, ?_⟩; have n0_ := Aside0.mk (Kd.R_lower ho0 (below_size (hL HB.out))); have n1_ := Aside0.mk (below_step (hL HB.out) hb); clear HB; have HO257 := n0_; have HB := n1_; clear n0_ n1_; (try clear hb); (try clear hb2); (try clear hk); (try clear hi); (try clear ho0)))
 go_loopg [4, 16] k (fun kq v4 v16 w' => ∃ (x4_1 : List Int) (x16_1 : Int), v16 = .int .i64 x16_1 ∧ Aside0 (run_Pack.l0 kq x4_1 l0 (l0.length : Int) x16_1 = some (r1, r2)) ∧ Aside0 (kq ≤ k) ∧ Aside0 (Kd.R (Kd.int .u8) 5 w' w.heap.size (fun _ => True) v4 x4_1) ∧ Aside0 (Below w.heap.size w w'))
 case atStart => exact ⟨(t255), (0), (by first | rfl | (simp; done) | (simp [*]; done) | (simp [ne_nil_bytes]; done) | (simp [eq_nil_bytes]; done)), H', ⟨Nat.le_refl _⟩, ⟨by exact rL HO257.out⟩, ⟨hL HB.out⟩⟩
 clear H'
 try clear c2
 try clear p2
 try clear c3
 obtain ⟨x4_1, x16_1, rfl, HA, HK1, HO_4, HB⟩ := hrel
 rcases gk with _ | k1
 ·exact absurd HA.out (by simp [run_Pack.l0])
 have H := HA.out
 clear HA
 simp only [run_Pack.l0] at H
 by_cases c7 : x16_1 < (l0.length : Int)
 rotate_left
 ·rw [if_neg c7] at H
  have c7b0 : decide (x16_1 < (l0.length : Int)) = false := decide_eq_false c7
  clear c7
  simp only [Option.some.injEq, Prod.mk.injEq] at H
  obtain ⟨rfl, rfl⟩ := H
  go_wp2
  go_ret2
  exact ⟨_, by first | rfl | (simp [errW_none, errW_some] <;> rfl) | (simp [*, errW_none, errW_some] <;> rfl), by exact rL HO_4.out, hL HB.out⟩
 rw [if_pos c7] at H
 have c7b0 : decide (x16_1 < (l0.length : Int)) = true := decide_eq_true c7
 clear c7
 by_cases c8 : 0 ≤ x16_1
 rotate_left
 ·rw [if_neg c8] at H
  exact absurd H (by simp)
 rw [if_pos c8] at H
 have c8b0 : decide (0 ≤ x16_1) = true := decide_eq_true c8
 clear c8
 by_cases c9 : x16_1 < (l0.length : Int)
 rotate_left
 ·rw [if_neg c9] at H
  exact absurd H (by simp)
 rw [if_pos c9] at H
 have c9b0 : decide (x16_1 < (l0.length : Int)) = true := decide_eq_true c9
 clear c9
 have HC10 := Aside0.mk H
 clear H
 have p258 : 0 ≤ (x16_1 : Int) := of_decide_eq_true (by first | (with_reducible assumption) | assumption)
 have q258 : x16_1 < (l0.length : Int) := of_decide_eq_true (by first | (with_reducible assumption) | assumption)
 obtain ⟨ad258, e258, hx258_0, hx258_1, hx258_2⟩ := at_T37 HR0.out x16_1 p258 q258
 cases e258
 replace hx258_0 := (HB.out.cell (World.block_lt_of_cell? w _ hx258_0)).trans hx258_0
 replace hx258_1 := (HB.out.cell (World.block_lt_of_cell? w _ hx258_1)).trans hx258_1
 replace hx258_2 := (HB.out.cell (World.block_lt_of_cell? w _ hx258_2)).trans hx258_2
 replace p258 := eq_true p258
 replace q258 := eq_true q258
 go_upto_if 21 with (first | ((with_reducible refine gate_dst (N := 6) rfl ?_); refine box_event ?hg (N := 6) ?hd (cs := #[.string (⟨#[]⟩ : ByteArray), .string (⟨#[]⟩ : ByteArray), .bool false]) (t := 37) ?hr ?_; (case hd => rfl); (case hg => rfl); (case hr => first | (go_simp; done) | (go_simp; rfl)); intro gb259 hg w11 hbox hb; have n0_ := Aside0.mk (Kd.R_below (rL HO_4.out) hb); have n1_ := Aside0.mk (below_step (hL HB.out) hb); have n2_ := Aside0.mk (hbox); have n3_ := Above.mk ((by rw [hg]; exact (below_size (hL HB.out)) : w.heap.size ≤ gb259)); have n4_ := Above.mk ((by rw [hg]; exact (below_size (hL HB.out)) : w.heap.size ≤ gb259)); clear HO_4; clear HB; have HO_4 := n0_; have HB := n1_; have BK259 := n2_; have GW259 := n3_; have GE259 := n4_; clear n0_ n1_ n2_ n3_ n4_; clear hb hbox hg; have hcz12_0 : w11.cell? ⟨gb259, 0, none⟩ = some (.string (⟨#[]⟩ : ByteArray)) := (blk_cell BK259.out 0).trans rfl; have hcz12_1 : w11.cell? ⟨gb259, 1, none⟩ = some (.string (⟨#[]⟩ : ByteArray)) := (blk_cell BK259.out 1).trans rfl; have hcz12_2 : w11.cell? ⟨gb259, 2, none⟩ = some (.bool false) := (blk_cell BK259.out 2).trans rfl; have hfz12_0 := blk_frozen BK259.out 0; have hfz12_1 := blk_frozen BK259.out 1; have hfz12_2 := blk_frozen BK259.out 2))
 (try simp only [Act.put, sT, sZ, sS])
 go_cut [7] (fun v7 wc => ∃ (kq : Nat) (x7_9 : Int), v7 = .int .i64 x7_9 ∧ Aside0 (run_Pack.j1 kq x4_1 x7_9 l0 (l0.length : Int) x16_1 ((rd_T37 l0 x16_1).f0) ((rd_T37 l0 x16_1).f1) ((rd_T37 l0 x16_1).f2) = some (r1, r2)) ∧ Aside0 (kq ≤ k1) ∧ Aside0 (Kd.R (Kd.int .u8) 5 wc w.heap.size (fun _ => True) u4 x4_1) ∧ Aside0 (wc.heap[gb259]? = some (.cells #[.string ((rd_T37 l0 x16_1).f0), .string ((rd_T37 l0 x16_1).f1), .bool ((rd_T37 l0 x16_1).f2)] 37 (0, 0))) ∧ Aside0 (Below w.heap.size w wc))
 case first =>
  have H := HC10.out
  clear HC10
  obtain ⟨bq13, hbq13⟩ : ∃ b_ : Bool, b_ = ((rd_T37 l0 x16_1).f2) := ⟨_, rfl⟩
  replace H : (if bq13 = true then (run_Pack.j1 k1 x4_1 1 l0 (l0.length : Int) x16_1 ((rd_T37 l0 x16_1).f0) ((rd_T37 l0 x16_1).f1) bq13) else (run_Pack.j1 k1 x4_1 0 l0 (l0.length : Int) x16_1 ((rd_T37 l0 x16_1).f0) ((rd_T37 l0 x16_1).f1) bq13)) = some (r1, r2) := by rw [← hbq13] at H; exact H
  have Nbq13 := Aside0.mk hbq13
  clear hbq13
  (try rw [← Nbq13.out])
  by_cases c14 : bq13 = true
  ·subst c14
   have H1 : (run_Pack.j1 k1 x4_1 1 l0 (l0.length : Int) x16_1 ((rd_T37 l0 x16_1).f0) ((rd_T37 l0 x16_1).f1) true) = some (r1, r2) := by rw [if_pos rfl] at H; exact H
   clear H
   have H := H1
   clear H1
   have H' := Aside0.mk H
   clear H
   go_wp2
   go_meet
   case rel => (first | exact ⟨_, (1), (by first | rfl | (simp; done) | (simp [*]; done) | (simp [ne_nil_bytes]; done) | (simp [eq_nil_bytes]; done)), H', ⟨by have := HK1.out; first | omega | exact Nat.le_refl _⟩, ⟨by (with_reducible repeat (first | apply Kd.R_alloc | apply Kd.R_drewN | apply Kd.R_drew)); exact Kd.R_mono (Kd.R_far (p := ⟨gb259, 2, none⟩) (Kd.R_far (p := ⟨gb259, 1, none⟩) (Kd.R_far (p := ⟨gb259, 0, none⟩) (Kd.R_types HO_4.out BK259.out (by decide)) (fun _ hk => hk.2) (.string ((rd_T37 l0 x16_1).f0))) (fun _ hk => hk.2) (.string ((rd_T37 l0 x16_1).f1))) (fun _ hk => hk.2) (.bool (true))) (fun _ hk => trivial)⟩, ⟨by (with_reducible repeat (first | refine blk_drewN ?_ _ | refine blk_drew ?_ | refine blk_alloc ?_ _)); refine blk_put (cs := #[.string ((rd_T37 l0 x16_1).f0), .string ((rd_T37 l0 x16_1).f1), .bool false]) ?_ 2 _ rfl; (with_reducible repeat (first | refine blk_drewN ?_ _ | refine blk_drew ?_ | refine blk_alloc ?_ _)); refine blk_put (cs := #[.string ((rd_T37 l0 x16_1).f0), .string (⟨#[]⟩ : ByteArray), .bool false]) ?_ 1 _ rfl; (with_reducible repeat (first | refine blk_drewN ?_ _ | refine blk_drew ?_ | refine blk_alloc ?_ _)); refine blk_put (cs := #[.string (⟨#[]⟩ : ByteArray), .string (⟨#[]⟩ : ByteArray), .bool false]) ?_ 0 _ rfl; exact bL BK259.out⟩, ⟨hL HB.out⟩⟩ | ((try rw [← Nbq13.out]); exact ⟨_, (1), (by first | rfl | (simp; done) | (simp [*]; done) | (simp [ne_nil_bytes]; done) | (simp [eq_nil_bytes]; done)), H', ⟨by have := HK1.out; first | omega | exact Nat.le_refl _⟩, ⟨by (with_reducible repeat (first | apply Kd.R_alloc | apply Kd.R_drewN | apply Kd.R_drew)); exact Kd.R_mono (Kd.R_far (p := ⟨gb259, 2, none⟩) (Kd.R_far (p := ⟨gb259, 1, none⟩) (Kd.R_far (p := ⟨gb259, 0, none⟩) (Kd.R_types HO_4.out BK259.out (by decide)) (fun _ hk => hk.2) (.string ((rd_T37 l0 x16_1).f0))) (fun _ hk => hk.2) (.string ((rd_T37 l0 x16_1).f1))) (fun _ hk => hk.2) (.bool (true))) (fun _ hk => trivial)⟩, ⟨by (with_reducible repeat (first | refine blk_drewN ?_ _ | refine blk_drew ?_ | refine blk_alloc ?_ _)); refine blk_put (cs := #[.string ((rd_T37 l0 x16_1).f0), .string ((rd_T37 l0 x16_1).f1), .bool false]) ?_ 2 _ rfl; (with_reducible repeat (first | refine blk_drewN ?_ _ | refine blk_drew ?_ | refine blk_alloc ?_ _)); refine blk_put (cs := #[.string ((rd_T37 l0 x16_1).f0), .string (⟨#[]⟩ : ByteArray), .bool false]) ?_ 1 _ rfl; (with_reducible repeat (first | refine blk_drewN ?_ _ | refine blk_drew ?_ | refine blk_alloc ?_ _)); refine blk_put (cs := #[.string (⟨#[]⟩ : ByteArray), .string (⟨#[]⟩ : ByteArray), .bool false]) ?_ 0 _ rfl; exact bL BK259.out⟩, ⟨hL HB.out⟩⟩))
  replace c14 := Bool.eq_false_iff.mpr c14
  subst c14
  have H1 : (run_Pack.j1 k1 x4_1 0 l0 (l0.length : Int) x16_1 ((rd_T37 l0 x16_1).f0) ((rd_T37 l0 x16_1).f1) false) = some (r1, r2) := by rw [if_neg (show ¬ (false = true) by decide)] at H; exact H
  clear H
  have H := H1
  clear H1
  have H' := Aside0.mk H
  clear H
  go_wp2
  go_meet
  case rel => (first | exact ⟨_, (0), (by first | rfl | (simp; done) | (simp [*]; done) | (simp [ne_nil_bytes]; done) | (simp [eq_nil_bytes]; done)), H', ⟨by have := HK1.out; first | omega | exact Nat.le_refl _⟩, ⟨by (with_reducible repeat (first | apply Kd.R_alloc | apply Kd.R_drewN | apply Kd.R_drew)); exact Kd.R_mono (Kd.R_far (p := ⟨gb259, 2, none⟩) (Kd.R_far (p := ⟨gb259, 1, none⟩) (Kd.R_far (p := ⟨gb259, 0, none⟩) (Kd.R_types HO_4.out BK259.out (by decide)) (fun _ hk => hk.2) (.string ((rd_T37 l0 x16_1).f0))) (fun _ hk => hk.2) (.string ((rd_T37 l0 x16_1).f1))) (fun _ hk => hk.2) (.bool (false))) (fun _ hk => trivial)⟩, ⟨by (with_reducible repeat (first | refine blk_drewN ?_ _ | refine blk_drew ?_ | refine blk_alloc ?_ _)); refine blk_put (cs := #[.string ((rd_T37 l0 x16_1).f0), .string ((rd_T37 l0 x16_1).f1), .bool false]) ?_ 2 _ rfl; (with_reducible repeat (first | refine blk_drewN ?_ _ | refine blk_drew ?_ | refine blk_alloc ?_ _)); refine blk_put (cs := #[.string ((rd_T37 l0 x16_1).f0), .string (⟨#[]⟩ : ByteArray), .bool false]) ?_ 1 _ rfl; (with_reducible repeat (first | refine blk_drewN ?_ _ | refine blk_drew ?_ | refine blk_alloc ?_ _)); refine blk_put (cs := #[.string (⟨#[]⟩ : ByteArray), .string (⟨#[]⟩ : ByteArray), .bool false]) ?_ 0 _ rfl; exact bL BK259.out⟩, ⟨hL HB.out⟩⟩ | ((try rw [← Nbq13.out]); exact ⟨_, (0), (by first | rfl | (simp; done) | (simp [*]; done) | (simp [ne_nil_bytes]; done) | (simp [eq_nil_bytes]; done)), H', ⟨by have := HK1.out; first | omega | exact Nat.le_refl _⟩, ⟨by (with_reducible repeat (first | apply Kd.R_alloc | apply Kd.R_drewN | apply Kd.R_drew)); exact Kd.R_mono (Kd.R_far (p := ⟨gb259, 2, none⟩) (Kd.R_far (p := ⟨gb259, 1, none⟩) (Kd.R_far (p := ⟨gb259, 0, none⟩) (Kd.R_types HO_4.out BK259.out (by decide)) (fun _ hk => hk.2) (.string ((rd_T37 l0 x16_1).f0))) (fun _ hk => hk.2) (.string ((rd_T37 l0 x16_1).f1))) (fun _ hk => hk.2) (.bool (false))) (fun _ hk => trivial)⟩, ⟨by (with_reducible repeat (first | refine blk_drewN ?_ _ | refine blk_drew ?_ | refine blk_alloc ?_ _)); refine blk_put (cs := #[.string ((rd_T37 l0 x16_1).f0), .string ((rd_T37 l0 x16_1).f1), .bool false]) ?_ 2 _ rfl; (with_reducible repeat (first | refine blk_drewN ?_ _ | refine blk_drew ?_ | refine blk_alloc ?_ _)); refine blk_put (cs := #[.string ((rd_T37 l0 x16_1).f0), .string (⟨#[]⟩ : ByteArray), .bool false]) ?_ 1 _ rfl; (with_reducible repeat (first | refine blk_drewN ?_ _ | refine blk_drew ?_ | refine blk_alloc ?_ _)); refine blk_put (cs := #[.string (⟨#[]⟩ : ByteArray), .string (⟨#[]⟩ : ByteArray), .bool false]) ?_ 0 _ rfl; exact bL BK259.out⟩, ⟨hL HB.out⟩⟩))
 clear HC10
 try clear c1
 try clear q1
 try clear c2
 try clear p2
 try clear q2
 try clear hx2
 try clear c3
 try clear c7
 try clear c7b0
 try clear c7b0z
 try clear c8
 try clear c8b0
 try clear c8b0z
 try clear c9
 try clear c9b0
 try clear c9b0z
 try clear q13
 try clear c14
 try clear hcz12_0
 try clear hcz12_1
 try clear hcz12_2
 try clear hfz12_0
 try clear hfz12_1
 try clear hfz12_2
 try clear hx258_0
 try clear hx258_1
 try clear hx258_2
 try clear p2
 try clear p258
 try clear q258
 obtain ⟨kq, x7_9, rfl, HA, HJ9, HO_4, BK259, HB⟩ := hcut
 rcases kq with _ | kj9
 ·exact absurd HA.out (by simp [run_Pack.j1])
 have H := HA.out
 clear HA
 simp only [run_Pack.j1] at H
 replace H := Option.bind_eq_some_iff.mp H
 obtain ⟨t260, A150, H⟩ := H
 replace H : ((pack_Num.f kj9 x7_9).bind fun t263 => ((pack_Text.f kj9 ((rd_T37 l0 x16_1).f1)).bind fun t266 => ((pack_Join.f kj9 (([t260, t263, t266] : List (List Int)))).bind fun t272 => (if x4_1.length + t272.length < 140737488355328 then (run_Pack.l0 kj9 (x4_1 ++ t272) l0 (l0.length : Int) (wrap64 (x16_1 + 1))) else (none))))) = some (r1, r2) := H
 have A15 := Aside0.mk A150
 clear A150
 replace H := Option.bind_eq_some_iff.mp H
 obtain ⟨t263, A160, H⟩ := H
 replace H : ((pack_Text.f kj9 ((rd_T37 l0 x16_1).f1)).bind fun t266 => ((pack_Join.f kj9 (([t260, t263, t266] : List (List Int)))).bind fun t272 => (if x4_1.length + t272.length < 140737488355328 then (run_Pack.l0 kj9 (x4_1 ++ t272) l0 (l0.length : Int) (wrap64 (x16_1 + 1))) else (none)))) = some (r1, r2) := H
 have A16 := Aside0.mk A160
 clear A160
 replace H := Option.bind_eq_some_iff.mp H
 obtain ⟨t266, A170, H⟩ := H
 replace H : ((pack_Join.f kj9 (([t260, t263, t266] : List (List Int)))).bind fun t272 => (if x4_1.length + t272.length < 140737488355328 then (run_Pack.l0 kj9 (x4_1 ++ t272) l0 (l0.length : Int) (wrap64 (x16_1 + 1))) else (none))) = some (r1, r2) := H
 have A17 := Aside0.mk A170
 clear A170
 obtain ⟨y269, hy269⟩ : ∃ y_ : List (List Int), y_ = (([t260, t263, t266] : List (List Int))) := ⟨_, rfl⟩
 replace H : ((pack_Join.f kj9 y269).bind fun t272 => (if x4_1.length + t272.length < 140737488355328 then (run_Pack.l0 kj9 (x4_1 ++ t272) l0 (l0.length : Int) (wrap64 (x16_1 + 1))) else (none))) = some (r1, r2) := by first | (rw [hy269]; with_reducible exact H) | (have H2_ := (Option.bind_some _ _).symm.trans H; rw [hy269]; with_reducible exact H2_) | (have H2_ := (Option.bind_some _ _).symm.trans H; with_reducible exact H2_) | with_reducible exact H | (rw [hy269]; exact H) | exact H
 have Ny269 := Aside0.mk hy269
 clear hy269
 replace H := Option.bind_eq_some_iff.mp H
 obtain ⟨t272, A180, H⟩ := H
 replace H : (if x4_1.length + t272.length < 140737488355328 then (run_Pack.l0 kj9 (x4_1 ++ t272) l0 (l0.length : Int) (wrap64 (x16_1 + 1))) else (none)) = some (r1, r2) := H
 have A18 := Aside0.mk A180
 clear A180
 by_cases c19 : x4_1.length + t272.length < 140737488355328
 rotate_left
 ·rw [if_neg c19] at H
  exact absurd H (by simp)
 rw [if_pos c19] at H
 have LMc19 := Aside0.mk c19
 clear c19
 obtain ⟨y275, hy275⟩ : ∃ y_ : List Int, y_ = (x4_1 ++ t272) := ⟨_, rfl⟩
 replace H : (run_Pack.l0 kj9 y275 l0 (l0.length : Int) (wrap64 (x16_1 + 1))) = some (r1, r2) := by first | (rw [hy275]; with_reducible exact H) | (have H2_ := (Option.bind_some _ _).symm.trans H; rw [hy275]; with_reducible exact H2_) | (have H2_ := (Option.bind_some _ _).symm.trans H; with_reducible exact H2_) | with_reducible exact H | (rw [hy275]; exact H) | exact H
 have Ny275 := Aside0.mk hy275
 clear hy275
 have H' := Aside0.mk H
 clear H
 try go_wp2
 have n0_ := Aside0.mk (Kd.R_drew HO_4.out)
 have n1_ := Aside0.mk (blk_drew BK259.out)
 have n2_ := Aside0.mk (below_drew1 HB.out)
 clear HO_4
 clear BK259
 clear HB
 have HO_4 := n0_
 have BK259 := n1_
 have HB := n2_
 clear n0_ n1_ n2_
 refine start_ (n := 13) (S := fun w' => w'.cell? ⟨gb259, 0, none⟩ = some (.string ((rd_T37 l0 x16_1).f0)) ∧ w'.cell? ⟨gb259, 1, none⟩ = some (.string ((rd_T37 l0 x16_1).f1)) ∧ w'.cell? ⟨gb259, 2, none⟩ = some (.bool ((rd_T37 l0 x16_1).f2))) (ds := []) #[false, false, false, false, false, false, false, false, false, false, false, false, false] (by kernel_rfl) rfl rfl ⟨(blk_cell BK259.out 0).trans rfl, (blk_cell BK259.out 1).trans rfl, (blk_cell BK259.out 2).trans rfl⟩ (fun hHeld => ?_); refine with_tabW run_Pack.tab10 run_Pack.bits10 (fun HT_ HW_ => ?_)
 generalize wc.drew = w20 at HO_4 BK259 HB hHeld ⊢
 refine pure_ (i := 0) (N := some 22) (v := ?_) (a' := ?_) #[true, false, false, false, false, false, false, false, false, false, false, false, false] rfl rfl (any_of HT_.out (by kernel_rfl)) (fun _ _ _ h => h) (Or.inl ⟨by rfl, ?_⟩) ?_ ?_
 rotate_left
 ·intro w'
  go_simp
  with_reducible rfl
 rotate_left
 ·simp only [Act.put, sT, sZ, sS, i64_w, i32_w]
  rfl
 refine pure_ (i := 1) (N := some 23) (v := ?_) (a' := ?_) #[true, true, false, false, false, false, false, false, false, false, false, false, false] rfl rfl (any_of HT_.out (by kernel_rfl)) (fun _ _ _ h => h) (Or.inl ⟨by rfl, ?_⟩) ?_ ?_
 rotate_left
 ·intro w'
  go_simp
  with_reducible rfl
 rotate_left
 ·simp only [Act.put, sT, sZ, sS, i64_w, i32_w]
  rfl
 refine pure_ (i := 4) (N := some 26) (v := ?_) (a' := ?_) #[true, true, false, false, true, false, false, false, false, false, false, false, false] rfl rfl (any_of HT_.out (by kernel_rfl)) (fun _ _ _ h => h) (Or.inl ⟨by rfl, ?_⟩) ?_ ?_
 rotate_left
 ·intro w'
  go_simp
  with_reducible rfl
 rotate_left
 ·simp only [Act.put, sT, sZ, sS, i64_w, i32_w]
  rfl
 refine pure_ (i := 6) (N := some 28) (v := ?_) (a' := ?_) #[true, true, false, false, true, false, true, false, false, false, false, false, false] rfl rfl (any_of HT_.out (by kernel_rfl)) (fun _ _ _ h => h) (Or.inl ⟨by rfl, ?_⟩) ?_ ?_
 rotate_left
 ·intro w'
  go_simp
  with_reducible rfl
 rotate_left
 ·simp only [Act.put, sT, sZ, sS, i64_w, i32_w]
  rfl
 refine take_ (i := 2) (N := some 24) (v := ?_) (a' := ?_) #[true, true, true, false, true, false, true, false, false, false, false, false, false] rfl rfl (take_ofW HT_.out HW_.out (by kernel_rfl)) (fun _ _ _ h => h) (Or.inl ⟨by rfl, ?_⟩) hHeld ?_ ?_
 rotate_left
 ·rintro w' ⟨s0, s1, s2⟩
  go_simp
  with_reducible rfl
 rotate_left
 ·simp only [Act.put, sT, sZ, sS, i64_w, i32_w]
  rfl
 refine take_ (i := 7) (N := some 29) (v := ?_) (a' := ?_) #[true, true, true, false, true, false, true, true, false, false, false, false, false] rfl rfl (take_ofW HT_.out HW_.out (by kernel_rfl)) (fun _ _ _ h => h) (Or.inl ⟨by rfl, ?_⟩) hHeld ?_ ?_
 rotate_left
 ·rintro w' ⟨s0, s1, s2⟩
  go_simp
  with_reducible rfl
 rotate_left
 ·simp only [Act.put, sT, sZ, sS, i64_w, i32_w]
  rfl
 refine one_ (i := 3) (N := some 25) #[true, true, true, true, true, false, true, true, false, false, false, false, false] rfl rfl (one_of HT_.out (by kernel_rfl)) (by decide) (fun K hK => ?_)
 refine goes_ Try.func38 (by kernel_rfl) rfl #[.string ((rd_T37 l0 x16_1).f0)] (by rfl) rfl rfl (by (try simp only [List.map_toArray, List.map_cons, List.map_nil]); first | done | rfl | (simp only [List.length_drop, List.length_take]; rfl)) ?_
 with_reducible refine (pack_Text.calls kj9 ((rd_T37 l0 x16_1).f0) t260 _ A15.out).mono ?_
 rintro e w21 ⟨v261, rfl, ho0, hb⟩
 refine ⟨_, rfl, ?_⟩
 have n0_ := Aside0.mk (Kd.R_elder' (rL HO_4.out) (Kd.R_base ho0) hb)
 have n1_ := Aside0.mk (Kd.R_lower (Kd.R_new' ho0 (Kd.R_lt (rL HO_4.out))) (below_size (hL HB.out)))
 have n2_ := Aside0.mk (blk_below (bL BK259.out) hb)
 have n3_ := Aside0.mk (below_step (hL HB.out) hb)
 clear HO_4
 clear BK259
 clear HB
 have HO_4 := n0_
 have HO262 := n1_
 have BK259 := n2_
 have HB := n3_
 clear n0_ n1_ n2_ n3_
 (try clear hb)
 (try clear hb2)
 (try clear hk)
 (try clear hi)
 (try clear ho0)
 refine hK.out _ _ ⟨(blk_cell BK259.out 0).trans rfl, (blk_cell BK259.out 1).trans rfl, (blk_cell BK259.out 2).trans rfl⟩ (fun hHeld => ?_)
 clear hK K
 refine norm_ (a' := ?_) ?_ ?_
 rotate_left
 ·show Act.put _ (some 25) _ = _
  simp only [Act.put, sT, sZ, sS, i64_w, i32_w]
  rfl
 refine one_ (i := 5) (N := some 27) #[true, true, true, true, true, true, true, true, false, false, false, false, false] rfl rfl (one_of HT_.out (by kernel_rfl)) (by decide) (fun K hK => ?_)
 refine goes_ Try.func36 (by kernel_rfl) rfl #[.int .i64 x7_9] (by rfl) rfl rfl (by (try simp only [List.map_toArray, List.map_cons, List.map_nil]); first | done | rfl | (simp only [List.length_drop, List.length_take]; rfl)) ?_
 with_reducible refine (pack_Num.calls kj9 x7_9 t263 _ A16.out).mono ?_
 rintro e w22 ⟨v264, rfl, ho0, hb⟩
 refine ⟨_, rfl, ?_⟩
 have n0_ := Aside0.mk (Kd.R_elder' (rL HO_4.out) (Kd.R_base ho0) hb)
 have n1_ := Aside0.mk (Kd.R_elder' (rL HO262.out) (Kd.R_base ho0) hb)
 have n2_ := Aside0.mk (Kd.R_lower (Kd.R_new' (Kd.R_new' ho0 (Kd.R_lt (rL HO_4.out))) (Kd.R_lt (rL HO262.out))) (below_size (hL HB.out)))
 have n3_ := Aside0.mk (blk_below (bL BK259.out) hb)
 have n4_ := Aside0.mk (below_step (hL HB.out) hb)
 clear HO_4
 clear HO262
 clear BK259
 clear HB
 have HO_4 := n0_
 have HO262 := n1_
 have HO265 := n2_
 have BK259 := n3_
 have HB := n4_
 clear n0_ n1_ n2_ n3_ n4_
 (try clear hb)
 (try clear hb2)
 (try clear hk)
 (try clear hi)
 (try clear ho0)
 refine hK.out _ _ ⟨(blk_cell BK259.out 0).trans rfl, (blk_cell BK259.out 1).trans rfl, (blk_cell BK259.out 2).trans rfl⟩ (fun hHeld => ?_)
 clear hK K
 refine norm_ (a' := ?_) ?_ ?_
 rotate_left
 ·show Act.put _ (some 27) _ = _
  simp only [Act.put, sT, sZ, sS, i64_w, i32_w]
  rfl
 refine one_ (i := 8) (N := some 30) #[true, true, true, true, true, true, true, true, true, false, false, false, false] rfl rfl (one_of HT_.out (by kernel_rfl)) (by decide) (fun K hK => ?_)
 refine goes_ Try.func38 (by kernel_rfl) rfl #[.string ((rd_T37 l0 x16_1).f1)] (by rfl) rfl rfl (by (try simp only [List.map_toArray, List.map_cons, List.map_nil]); first | done | rfl | (simp only [List.length_drop, List.length_take]; rfl)) ?_
 with_reducible refine (pack_Text.calls kj9 ((rd_T37 l0 x16_1).f1) t266 _ A17.out).mono ?_
 rintro e w23 ⟨v267, rfl, ho0, hb⟩
 refine ⟨_, rfl, ?_⟩
 have n0_ := Aside0.mk (Kd.R_elder' (rL HO_4.out) (Kd.R_base ho0) hb)
 have n1_ := Aside0.mk (Kd.R_elder' (rL HO262.out) (Kd.R_base ho0) hb)
 have n2_ := Aside0.mk (Kd.R_elder' (rL HO265.out) (Kd.R_base ho0) hb)
 have n3_ := Aside0.mk (Kd.R_lower (Kd.R_new' (Kd.R_new' (Kd.R_new' ho0 (Kd.R_lt (rL HO_4.out))) (Kd.R_lt (rL HO262.out))) (Kd.R_lt (rL HO265.out))) (below_size (hL HB.out)))
 have n4_ := Aside0.mk (blk_below (bL BK259.out) hb)
 have n5_ := Aside0.mk (below_step (hL HB.out) hb)
 clear HO_4
 clear HO262
 clear HO265
 clear BK259
 clear HB
 have HO_4 := n0_
 have HO262 := n1_
 have HO265 := n2_
 have HO268 := n3_
 have BK259 := n4_
 have HB := n5_
 clear n0_ n1_ n2_ n3_ n4_ n5_
 (try clear hb)
 (try clear hb2)
 (try clear hk)
 (try clear hi)
 (try clear ho0)
 obtain ⟨Ao24, co24, eo24⟩ := Kd.R_slice HO262.out
 (first | subst eo24 | (injection eo24 with f1_ f2_ f3_; have f4_ := f1_.symm; have f5_ := f3_.symm; clear f1_ f2_ f3_; subst f4_; subst f5_))
 obtain ⟨Ao25, co25, eo25⟩ := Kd.R_slice HO265.out
 (first | subst eo25 | (injection eo25 with f1_ f2_ f3_; have f4_ := f1_.symm; have f5_ := f3_.symm; clear f1_ f2_ f3_; subst f4_; subst f5_))
 obtain ⟨Ao26, co26, eo26⟩ := Kd.R_slice HO268.out
 (first | subst eo26 | (injection eo26 with f1_ f2_ f3_; have f4_ := f1_.symm; have f5_ := f3_.symm; clear f1_ f2_ f3_; subst f4_; subst f5_))
 refine hK.out _ _ ⟨(blk_cell BK259.out 0).trans rfl, (blk_cell BK259.out 1).trans rfl, (blk_cell BK259.out 2).trans rfl⟩ (fun hHeld => ?_)
 clear hK K
 refine norm_ (a' := ?_) ?_ ?_
 rotate_left
 ·show Act.put _ (some 30) _ = _
  simp only [Act.put, sT, sZ, sS, i64_w, i32_w]
  rfl
 refine one_ (i := 9) (N := some 31) #[true, true, true, true, true, true, true, true, true, true, false, false, false] rfl rfl (one_of HT_.out (by kernel_rfl)) (by decide) (fun K hK => ?_)
 refine Kd.N_lit_step (Kd.slice 5 (Kd.int .u8)) _ 45 ?hg (N' := 31) ?hd (xs := ([t260, t263, t266] : List (List Int))) (inner := [.slice Ao24 t260.length co24, .slice Ao25 t263.length co25, .slice Ao26 t266.length co26]) (ok := (fun k_ => some k_ ≠ (u4 : Value).ownBlock ∧ k_ ≠ gb259)) (okp := (fun k_ => some k_ ≠ (u4 : Value).ownBlock ∧ k_ ≠ gb259)) ?hr ?hp (fun _ hk => hk) ((show ∀ k_, w23.heap.size ≤ k_ → (fun k_ => some k_ ≠ (u4 : Value).ownBlock ∧ k_ ≠ gb259) k_ from fun k_ hk => ⟨Kd.fresh' (Kd.R_lt (rL HO_4.out)) k_ hk, Kd.freshB (g := gb259) (o := .cells #[.string ((rd_T37 l0 x16_1).f0), .string ((rd_T37 l0 x16_1).f1), .bool ((rd_T37 l0 x16_1).f2)] 37 (0, 0)) (bL BK259.out) k_ hk⟩) _ (Nat.le_refl _)) (Below.refl _ _) (Nat.le_refl _) (by simp) ?_; (case hd => rfl); (case hg => rfl); (case hr => first | (go_simp; done) | (go_simp; rfl)); (case hp => exact (Reps.one (show Kd.FK (Kd.slice 5 (Kd.int .u8)) _ _ t260 [.slice Ao24 t260.length co24] from (Kd.FK_slice_mk (Kd.R_reads' (Kd.R_mono (ok' := (fun k_ => some k_ ≠ (u4 : Value).ownBlock ∧ k_ ≠ gb259)) (Kd.R_types (HO262.out) BK259.out (by decide)) (fun k_ hk => ⟨hk.1.1.1.2, hk.2⟩))).2.1 (Kd.R_F (Kd.R_mono (ok' := (fun k_ => some k_ ≠ (u4 : Value).ownBlock ∧ k_ ≠ gb259)) (Kd.R_types (HO262.out) BK259.out (by decide)) (fun k_ hk => ⟨hk.1.1.1.2, hk.2⟩))))) (Reps.one (show Kd.FK (Kd.slice 5 (Kd.int .u8)) _ _ t263 [.slice Ao25 t263.length co25] from (Kd.FK_slice_mk (Kd.R_reads' (Kd.R_mono (ok' := (fun k_ => some k_ ≠ (u4 : Value).ownBlock ∧ k_ ≠ gb259)) (Kd.R_types (HO265.out) BK259.out (by decide)) (fun k_ hk => ⟨hk.1.1.1.2, hk.2⟩))).2.1 (Kd.R_F (Kd.R_mono (ok' := (fun k_ => some k_ ≠ (u4 : Value).ownBlock ∧ k_ ≠ gb259)) (Kd.R_types (HO265.out) BK259.out (by decide)) (fun k_ hk => ⟨hk.1.1.1.2, hk.2⟩))))) (Reps.one (show Kd.FK (Kd.slice 5 (Kd.int .u8)) _ _ t266 [.slice Ao26 t266.length co26] from (Kd.FK_slice_mk (Kd.R_reads' (Kd.R_mono (ok' := (fun k_ => some k_ ≠ (u4 : Value).ownBlock ∧ k_ ≠ gb259)) (Kd.R_types (HO268.out) BK259.out (by decide)) (fun k_ hk => ⟨hk.1.1.1.2, hk.2⟩))).2.1 (Kd.R_F (Kd.R_mono (ok' := (fun k_ => some k_ ≠ (u4 : Value).ownBlock ∧ k_ ≠ gb259)) (Kd.R_types (HO268.out) BK259.out (by decide)) (fun k_ hk => ⟨hk.1.1.1.2, hk.2⟩))))) (Reps.none _ _)))))
 intro v270 w27 ho28 hb hg_ hnew_
 clear hg_ hnew_
 (first | rw [← Ny269.out] at ho28 | (simp only [Int.reduceToNat] at ho28; rw [← Ny269.out] at ho28))
 have n0_ := Aside0.mk (Kd.R_below (rL HO_4.out) hb)
 have n1_ := Aside0.mk (Kd.N_lower ho28 (below_size (hL HB.out)))
 have n2_ := Aside0.mk (blk_below (bL BK259.out) hb)
 have n3_ := Aside0.mk (below_step (hL HB.out) hb)
 clear HO_4
 clear BK259
 clear HB
 clear HO262
 clear HO265
 clear HO268
 have HO_4 := n0_
 have HO271 := n1_
 have BK259 := n2_
 have HB := n3_
 clear n0_ n1_ n2_ n3_
 clear hb ho28
 obtain ⟨Ao29, co29, eo29⟩ := Kd.N_slice HO271.out
 (first | subst eo29 | (injection eo29 with f1_ f2_ f3_; have f4_ := f1_.symm; have f5_ := f3_.symm; clear f1_ f2_ f3_; subst f4_; subst f5_))
 refine hK.out _ _ ⟨(blk_cell BK259.out 0).trans rfl, (blk_cell BK259.out 1).trans rfl, (blk_cell BK259.out 2).trans rfl⟩ (fun hHeld => ?_)
 clear hK K
 refine norm_ (a' := ?_) ?_ ?_
 rotate_left
 ·show Act.put _ (some 31) _ = _
  simp only [Act.put, sT, sZ, sS, i64_w, i32_w]
  rfl
 refine one_ (i := 10) (N := some 32) #[true, true, true, true, true, true, true, true, true, true, true, false, false] rfl rfl (one_of HT_.out (by kernel_rfl)) (by decide) (fun K hK => ?_)
 refine goes_ Try.func37 (by kernel_rfl) rfl #[.slice Ao29 y269.length co29] (by rfl) rfl rfl (by (try simp only [List.map_toArray, List.map_cons, List.map_nil]); first | done | rfl | (simp only [List.length_drop, List.length_take]; rfl)) ?_
 with_reducible refine (pack_Join.calls kj9 _ _ y269 t272 _ ?side1 ?side2 A18.out).mono ?_
 (case side1 => repeat (first | exact (Kd.N_reads' HO271.out).2.2 | (with_reducible refine Kd.C_alloc ?_ _) | (with_reducible refine Kd.C_drewN ?_ _) | (with_reducible refine Kd.C_drew ?_)))
 (case side2 => exact (Kd.N_reads' HO271.out).2.1)
 rintro e w30 ⟨v273, rfl, ho0, hb⟩
 refine ⟨_, rfl, ?_⟩
 have n0_ := Aside0.mk (Kd.R_elder' (rL HO_4.out) (Kd.R_base ho0) hb)
 have n1_ := Aside0.mk (Kd.N_elder' (nL HO271.out) (Kd.R_base ho0) hb)
 have n2_ := Aside0.mk (Kd.R_lower (Kd.R_new' ho0 (Kd.R_lt (rL HO_4.out))) (below_size (hL HB.out)))
 have n3_ := Aside0.mk (blk_below (bL BK259.out) hb)
 have n4_ := Aside0.mk (below_step (hL HB.out) hb)
 clear HO_4
 clear HO271
 clear BK259
 clear HB
 have HO_4 := n0_
 have HO271 := n1_
 have HO274 := n2_
 have BK259 := n3_
 have HB := n4_
 clear n0_ n1_ n2_ n3_ n4_
 (try clear hb)
 (try clear hb2)
 (try clear hk)
 (try clear hi)
 (try clear ho0)
 obtain ⟨Ao32, co32, eo32⟩ := Kd.R_slice HO274.out
 (first | subst eo32 | (injection eo32 with f1_ f2_ f3_; have f4_ := f1_.symm; have f5_ := f3_.symm; clear f1_ f2_ f3_; subst f4_; subst f5_))
 refine hK.out _ _ ⟨(blk_cell BK259.out 0).trans rfl, (blk_cell BK259.out 1).trans rfl, (blk_cell BK259.out 2).trans rfl⟩ (fun hHeld => ?_)
 clear hK K
 refine norm_ (a' := ?_) ?_ ?_
 rotate_left
 ·show Act.put _ (some 32) _ = _
  simp only [Act.put, sT, sZ, sS, i64_w, i32_w]
  rfl
 refine one_ (i := 11) (N := some 33) #[true, true, true, true, true, true, true, true, true, true, true, true, false] rfl rfl (one_of HT_.out (by kernel_rfl)) (by decide) (fun K hK => ?_)
 refine Kd.R_append_rows_step (Kd.int .u8) (w0 := w) w.heap.size (by rfl) (.tmp 22) (.tmp 32) 45 5 (.int .u8 0) 1 rfl Try.underlying45 info5 rfl (by decide) (by omega) u4 x4_1 t272 _ _ _ (fun k_ => some k_ ≠ (.slice Ao32 t272.length co32 : Value).ownBlock) (fun _ => False) rfl rfl ?aO ?aR (fun _ _ h => h) (fun _ h => h.elim) ?aF ?aB ?aS ?aL ?_
 (case aR => repeat (first | exact (Kd.R_reads' HO274.out).2.2 | (with_reducible refine Kd.C_alloc ?_ _) | (with_reducible refine Kd.C_drewN ?_ _) | (with_reducible refine Kd.C_drew ?_)))
 (case aB => exact (hL HB.out))
 (case aF => exact (fun k_ hk => Kd.fresh' (Kd.R_lt (rL HO274.out)) k_ hk))
 (case aO => exact (by (with_reducible repeat (first | apply Kd.R_alloc | apply Kd.R_drewN | apply Kd.R_drew)); exact Kd.R_mono HO_4.out (fun _ hk => hk.2)))
 (case aS => exact (below_size (hL HB.out)))
 (case aL => have := LMc19.out; omega)
 intro v276 w31 ho hb hg hat
 rw [← Ny275.out] at ho
 have n0_ := Aside0.mk (blk_grown (g := gb259) (o := .cells #[.string ((rd_T37 l0 x16_1).f0), .string ((rd_T37 l0 x16_1).f1), .bool ((rd_T37 l0 x16_1).f2)] 37 (0, 0)) (bL BK259.out) hg (Kd.R_ne HO_4.out BK259.out (by decide)))
 have n1_ := Aside0.mk (Kd.N_afterv (ok := (fun k_ => some k_ ≠ (.slice Ao32 t272.length co32 : Value).ownBlock ∧ k_ ≠ gb259)) (by (with_reducible repeat (first | apply Kd.N_alloc | apply Kd.N_drewN | apply Kd.N_drew)); exact Kd.N_mono HO271.out (fun _ hk => ⟨⟨hk.2, hk.1.2⟩, hk.1.1⟩)) hg hat)
 have n2_ := Aside0.mk (Kd.R_after (ok := (fun _ => True)) (rL HO274.out) hg hat)
 have n3_ := Aside0.mk (hb)
 have n4_ := Aside0.mk (ho)
 clear BK259
 clear HO271
 clear HO274
 clear HB
 clear HO_4
 have BK259 := n0_
 have HO271 := n1_
 have HO274 := n2_
 have HB := n3_
 have HO277 := n4_
 clear n0_ n1_ n2_ n3_ n4_
 clear ho hb hg hat
 refine hK.out _ _ ⟨(blk_cell BK259.out 0).trans rfl, (blk_cell BK259.out 1).trans rfl, (blk_cell BK259.out 2).trans rfl⟩ (fun hHeld => ?_)
 clear hK K
 refine norm_ (a' := ?_) ?_ ?_
 rotate_left
 ·show Act.put _ (some 33) _ = _
  simp only [Act.put, sT, sZ, sS, i64_w, i32_w]
  rfl
 refine pure_ (i := 12) (N := some 4) (v := ?_) (a' := ?_) #[true, true, true, true, true, true, true, true, true, true, true, true, true] rfl rfl (any_of HT_.out (by kernel_rfl)) (fun _ _ _ h => h) (Or.inl ⟨by rfl, ?_⟩) ?_ ?_
 rotate_left
 ·intro w'
  go_simp
  with_reducible rfl
 rotate_left
 ·simp only [Act.put, sT, sZ, sS, i64_w, i32_w]
  rfl
 refine done_ (done_of HT_.out (by kernel_rfl)) ?_
 try go_wp2
 go_roundg kj9
 case measure => have := HK1.out; have := HJ9.out; omega
 case rel => exact ⟨(y275), (wrap64 (x16_1 + 1)), (by first | rfl | (simp; done) | (simp [*]; done) | (simp [ne_nil_bytes]; done) | (simp [eq_nil_bytes]; done)), H', ⟨by have := HK1.out; have := HJ9.out; omega⟩, ⟨by (with_reducible repeat (first | apply Kd.R_alloc | apply Kd.R_drewN | apply Kd.R_drew)); exact Kd.R_mono HO277.out (fun _ hk => trivial)⟩, ⟨hL HB.out⟩⟩

end Go.Proofs.Ytkkfkccfnfjbiaa.PGr
