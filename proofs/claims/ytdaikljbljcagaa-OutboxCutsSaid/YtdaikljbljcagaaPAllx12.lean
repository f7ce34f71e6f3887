-- Written by a program of this session for this claim (mp.py, over the kit's print); Lean checks it.
import Derived.Test.YtdaikljbljcagaaPAllx0
import Derived.Test.YtdaikljbljcagaaPAllx11
namespace Go.Proofs.Ytdaikljbljcagaa.PAll
open Go.RowKit Go.Proofs.YtdaikljbljcagaaW.PrintWords Go.Proofs.YtdaikljbljcagaaW.PrintLast Go.Proofs.YtdaikljbljcagaaW.PrintMore Go.Proofs.Ytdaikljbljcagaa.Fv Go.Proofs.Ytdaikljbljcagaa.Hl
attribute [local go_sem] max2_int min2_int max_two min_two max_three min_three max_four min_four str_gtr str_leq str_geq cell_set2   -- for this text's walks alone
set_option linter.unusedVariables false
set_option linter.unusedSimpArgs false


/-! ### tuple_Cut: function 67 -/
mutual
def tuple_Cut.l0 : Nat → ByteArray → List (S105) → Option ((List (S105)) × ByteArray × Int)
 | 0, _, _ => none
 | k + 1, x0, x2 => if x0.toList = ([] : List UInt8) then (tuple_Cut.j1 k x0 x2 false) else (if 0 < (x0.size : Int) then (tuple_Cut.j1 k x0 x2 ((bt x0 0) != 0)) else (none))
def tuple_Cut.j1 : Nat → ByteArray → List (S105) → Bool → Option ((List (S105)) × ByteArray × Int)
 | 0, _, _, _ => none
 | k + 1, x0, x2, x14 => if x14 = true then (if (x2.length : Int) = 4 then (some (([] : List (S105)), (⟨#[]⟩ : ByteArray), 4)) else ((tuple_one.f x0).bind fun bt194 => (if bt194.2.2.2.2 = 0 then (if x2.length < 4398046511104 then (if 0 ≤ bt194.2.2.2.1 then (if bt194.2.2.2.1 ≤ (x0.size : Int) then (tuple_Cut.l0 k (x0.extract (bt194.2.2.2.1 : Int).toNat x0.size) (x2 ++ [(⟨bt194.1, bt194.2.1, bt194.2.2.1⟩ : S105)])) else (none)) else (none)) else (none)) else (some (([] : List (S105)), (⟨#[]⟩ : ByteArray), bt194.2.2.2.2))))) else (some (x2, x0, 0))
end
def tuple_Cut.f (k : Nat) (a0 : ByteArray) : Option ((List (S105)) × ByteArray × Int) := tuple_Cut.l0 k a0 ([] : List (S105))
theorem tuple_Cut.mono_l : ∀ k, (∀ y0 y1, LeO (tuple_Cut.l0 k y0 y1) (tuple_Cut.l0 (k + 1) y0 y1)) ∧ (∀ y0 y1 y2, LeO (tuple_Cut.j1 k y0 y1 y2) (tuple_Cut.j1 (k + 1) y0 y1 y2))
 | 0 => ⟨fun _ _ r h => by simp [tuple_Cut.l0] at h, fun _ _ _ r h => by simp [tuple_Cut.j1] at h⟩
 | k + 1 => by
  obtain ⟨ih0, ih1⟩ := tuple_Cut.mono_l k
  refine ⟨?_, ?_⟩
  ·intro y0 y1
   unfold tuple_Cut.l0
   repeat' first
   | (with_reducible exact ih0 _ _)
   | (with_reducible exact ih1 _ _ _)
   | (with_reducible exact LeO.refl _)
   | (with_reducible exact LeO.none _)
   | (with_reducible refine LeO.ite ?_ ?_)
   | (with_reducible refine LeO.bind ?_ (fun _ => ?_))
   | exact ih0 _ _
   | exact ih1 _ _ _
   | exact LeO.none _
   | refine LeO.ite ?_ ?_
   | refine LeO.bind ?_ (fun _ => ?_)
  ·intro y0 y1 y2
   unfold tuple_Cut.j1
   repeat' first
   | (with_reducible exact ih0 _ _)
   | (with_reducible exact ih1 _ _ _)
   | (with_reducible exact LeO.refl _)
   | (with_reducible exact LeO.none _)
   | (with_reducible refine LeO.ite ?_ ?_)
   | (with_reducible refine LeO.bind ?_ (fun _ => ?_))
   | exact ih0 _ _
   | exact ih1 _ _ _
   | exact LeO.none _
   | refine LeO.ite ?_ ?_
   | refine LeO.bind ?_ (fun _ => ?_)
theorem tuple_Cut.mono : ∀ a0 k, LeO (tuple_Cut.f k a0) (tuple_Cut.f (k + 1) a0) := by
 intro a0 k
 obtain ⟨ih0, ih1⟩ := tuple_Cut.mono_l k
 unfold tuple_Cut.f
 repeat' first
   | (with_reducible exact ih0 _ _)
   | (with_reducible exact ih1 _ _ _)
   | (with_reducible exact LeO.refl _)
   | (with_reducible exact LeO.none _)
   | (with_reducible refine LeO.ite ?_ ?_)
   | (with_reducible refine LeO.bind ?_ (fun _ => ?_))
   | exact ih0 _ _
   | exact ih1 _ _ _
   | exact LeO.none _
   | refine LeO.ite ?_ ?_
   | refine LeO.bind ?_ (fun _ => ?_)
def tuple_Cut.T7 : Bool × List (List Nat × List Nat) := (true, [([], []), ([], []), ([1], [1]), ([0, 2], [0, 2]), ([], []), ([], []), ([4, 5], [4, 5]), ([3, 3, 0, 1, 2, 3], [0, 3]), ([6, 7, 0, 1, 2, 3, 4, 5, 6, 7], [4, 6])])
def tuple_Cut.B7 : List Nat := [0, 0, 2, 7, 0, 0, 48, 15, 255]
theorem tuple_Cut.tab7 : rtab .any (opsOf Try.f67 7) = tuple_Cut.T7 := by kernel_rfl
theorem tuple_Cut.bits7 : waitsOk tuple_Cut.T7.2 tuple_Cut.B7 = true := by kernel_rfl
set_option maxHeartbeats 8000000 in
set_option maxRecDepth 100000 in
theorem tuple_Cut.calls (k : Nat) (a0 : ByteArray) (r1 : List (S105)) (r2 : ByteArray) (r3 : Int) (w : World) (h : tuple_Cut.f k a0 = some (r1, r2, r3)) :
  Calls Try.prog 67 #[.string a0] w fun e w' => ∃ v0_ : Value, e = .returned (.tuple #[v0_, .string r2, .int .i64 r3]) ∧ Kd.R k105 105 w' w.heap.size (fun _ => True) v0_ r1 ∧ Below w.heap.size w w' := by
 have hu105 := Try.underlying105
 have HB := Aside0.mk (Below.refl w.heap.size w)
 have H : (tuple_Cut.l0 k a0 ([] : List (S105))) = some (r1, r2, r3) := h
 clear h
 have H' := Aside0.mk H
 clear H
 go_enter Try.func67, Try.ntmps67
 go_wp2
 go_loopg [0, 2] k (fun kq v0 v2 w' => ∃ (x0_1 : ByteArray) (x2_1 : List (S105)), v0 = .string x0_1 ∧ Aside0 (tuple_Cut.l0 kq x0_1 x2_1 = some (r1, r2, r3)) ∧ Aside0 (kq ≤ k) ∧ Aside0 (Kd.R k105 105 w' w.heap.size (fun _ => True) v2 x2_1) ∧ Aside0 (Below w.heap.size w w'))
 case atStart => exact ⟨(a0), (([] : List (S105))), (by first | rfl | (simp; done) | (simp [*]; done) | (simp [ne_nil_bytes]; done) | (simp [eq_nil_bytes]; done)), H', ⟨Nat.le_refl _⟩, ⟨by first | exact Kd.R_nil _ _ _ _ _ | exact Kd.N_nil _ _ _ _ _ | exact Kd.V_nil _ _ _ _ _ | exact Kd.Q_nil _ _ _ _ _ | exact Kd.S_nil _ _ _ _ _⟩, ⟨hL HB.out⟩⟩
 clear H'
 obtain ⟨x0_1, x2_1, rfl, HA, HK1, HO_2, HB⟩ := hrel
 rcases gk with _ | k1
 ·exact absurd HA.out (by simp [tuple_Cut.l0])
 have H := HA.out
 clear HA
 simp only [tuple_Cut.l0] at H
 have HC2 := Aside0.mk H
 clear H
 go_upto_region 1 with (fail)
 go_cut [14] (fun v14 wc => ∃ (kq : Nat) (x14_1 : Bool), v14 = .bool x14_1 ∧ Aside0 (tuple_Cut.j1 kq x0_1 x2_1 x14_1 = some (r1, r2, r3)) ∧ Aside0 (kq ≤ k1) ∧ Aside0 (Kd.R k105 105 wc w.heap.size (fun _ => True) u2 x2_1) ∧ Aside0 (Below w.heap.size w wc))
 case first =>
  have H := HC2.out
  clear HC2
  by_cases c3 : x0_1.toList = ([] : List UInt8)
  ·rw [if_pos c3] at H
   have c3b0 : (x0_1.toList == ([] : List UInt8)) = true := beq_iff_eq.mpr c3
   have c3b1 : (x0_1.toList != ([] : List UInt8)) = false := bne_eq_false_iff_eq.mpr c3
   clear c3
   (first | rw [c3b0] | (simp only [i64_w, i32_w]; rw [c3b0]) | skip)
   have H' := Aside0.mk H
   clear H
   go_wp2
   go_meet
   case rel => exact ⟨_, (false), (by first | rfl | (simp; done) | (simp [*]; done) | (simp [ne_nil_bytes]; done) | (simp [eq_nil_bytes]; done)), H', ⟨by have := HK1.out; first | omega | exact Nat.le_refl _⟩, ⟨by exact rL HO_2.out⟩, ⟨hL HB.out⟩⟩
  rw [if_neg c3] at H
  have c3b0 : (x0_1.toList == ([] : List UInt8)) = false := beq_eq_false_iff_ne.mpr c3
  have c3b1 : (x0_1.toList != ([] : List UInt8)) = true := bne_iff_ne.mpr c3
  (first | rw [c3b0] | (simp only [i64_w, i32_w]; rw [c3b0]) | skip)
  by_cases c4 : 0 < (x0_1.size : Int)
  rotate_left
  ·rw [if_neg c4] at H
   exact absurd H (by simp)
  rw [if_pos c4] at H
  have c4b0 : decide (0 < (x0_1.size : Int)) = true := decide_eq_true c4
  have c4b1 : decide (0 < x0_1.size) = true := decide_eq_true (by omega)
  clear c4
  have H' := Aside0.mk H
  clear H
  have p5 : 0 ≤ (0 : Int) := (by omega)
  have q5 : 0 < x0_1.size := (by have : (0 : Int) < (x0_1.size : Int) := of_decide_eq_true (by first | (with_reducible assumption) | assumption); omega)
  have hx5 : ∀ h : 0 < x0_1.size, ((x0_1[0]'h).toNat : Int) = bt x0_1 0 := bt_at x0_1 0
  clear p5
  have qi5 : (0 < (x0_1.size : Int)) = True := eq_true (of_decide_eq_true (by first | (with_reducible assumption) | assumption))
  replace q5 := eq_true q5
  go_wp2
  go_meet
  case rel => exact ⟨_, (((bt x0_1 0) != 0)), (by first | rfl | (simp; done) | (simp [*]; done) | (simp [ne_nil_bytes]; done) | (simp [eq_nil_bytes]; done)), H', ⟨by have := HK1.out; first | omega | exact Nat.le_refl _⟩, ⟨by exact rL HO_2.out⟩, ⟨hL HB.out⟩⟩
 clear HC2
 try clear p2
 try clear c3
 try clear c3b0
 try clear c3b0z
 try clear c3b1
 try clear c3b1z
 try clear c4
 try clear c4b0
 try clear c4b0z
 try clear c4b1
 try clear c4b1z
 try clear p5
 try clear q5
 try clear hx5
 try clear qi5
 try clear p5
 try clear q5
 obtain ⟨kq, x14_1, rfl, HA, HJ1, HO_2, HB⟩ := hcut
 rcases kq with _ | kj1
 ·exact absurd HA.out (by simp [tuple_Cut.j1])
 have H := HA.out
 clear HA
 simp only [tuple_Cut.j1] at H
 by_cases c6 : x14_1 = true
 rotate_left
 ·replace c6 := Bool.eq_false_iff.mpr c6
  subst c6
  have H1 : (some (x2_1, x0_1, 0)) = some (r1, r2, r3) := by rw [if_neg (show ¬ (false = true) by decide)] at H; exact H
  clear H
  have H := H1
  clear H1
  simp only [Option.some.injEq, Prod.mk.injEq] at H
  obtain ⟨rfl, rfl, rfl⟩ := H
  go_wp2
  go_ret3
  exact ⟨_, by first | rfl | (simp [errW_none, errW_some] <;> rfl) | (simp [*, errW_none, errW_some] <;> rfl), by exact rL HO_2.out, hL HB.out⟩
 subst c6
 have H1 : (if (x2_1.length : Int) = 4 then (some (([] : List (S105)), (⟨#[]⟩ : ByteArray), 4)) else ((tuple_one.f x0_1).bind fun bt194 => (if bt194.2.2.2.2 = 0 then (if x2_1.length < 4398046511104 then (if 0 ≤ bt194.2.2.2.1 then (if bt194.2.2.2.1 ≤ (x0_1.size : Int) then (tuple_Cut.l0 kj1 (x0_1.extract (bt194.2.2.2.1 : Int).toNat x0_1.size) (x2_1 ++ [(⟨bt194.1, bt194.2.1, bt194.2.2.1⟩ : S105)])) else (none)) else (none)) else (none)) else (some (([] : List (S105)), (⟨#[]⟩ : ByteArray), bt194.2.2.2.2))))) = some (r1, r2, r3) := by rw [if_pos rfl] at H; exact H
 clear H
 have H := H1
 clear H1
 by_cases c7 : (x2_1.length : Int) = 4
 ·rw [if_pos c7] at H
  have c7b0 : ((x2_1.length : Int) == 4) = true := beq_iff_eq.mpr c7
  have c7b1 : ((x2_1.length : Int) != 4) = false := bne_eq_false_iff_eq.mpr c7
  clear c7
  simp only [Option.some.injEq, Prod.mk.injEq] at H
  obtain ⟨rfl, rfl, rfl⟩ := H
  obtain ⟨Ao8, co8, eo8⟩ := Kd.R_slice HO_2.out
  subst eo8
  go_wp2
  go_ret3
  exact ⟨_, by first | rfl | (simp [errW_none, errW_some] <;> rfl) | (simp [*, errW_none, errW_some] <;> rfl), by first | exact Kd.R_nil _ _ _ _ _ | exact Kd.N_nil _ _ _ _ _ | exact Kd.V_nil _ _ _ _ _ | exact Kd.Q_nil _ _ _ _ _ | exact Kd.S_nil _ _ _ _ _, hL HB.out⟩
 rw [if_neg c7] at H
 have c7b0 : ((x2_1.length : Int) == 4) = false := beq_eq_false_iff_ne.mpr c7
 have c7b1 : ((x2_1.length : Int) != 4) = true := bne_iff_ne.mpr c7
 replace H := Option.bind_eq_some_iff.mp H
 obtain ⟨⟨t194, t195, t196, t197, t198⟩, A90, H⟩ := H
 replace H : (if t198 = 0 then (if x2_1.length < 4398046511104 then (if 0 ≤ t197 then (if t197 ≤ (x0_1.size : Int) then (tuple_Cut.l0 kj1 (x0_1.extract (t197 : Int).toNat x0_1.size) (x2_1 ++ [(⟨t194, t195, t196⟩ : S105)])) else (none)) else (none)) else (none)) else (some (([] : List (S105)), (⟨#[]⟩ : ByteArray), t198))) = some (r1, r2, r3) := H
 have A9 := Aside0.mk A90
 clear A90
 by_cases c10 : t198 = 0
 rotate_left
 ·rw [if_neg c10] at H
  have c10b0 : (t198 == 0) = false := beq_eq_false_iff_ne.mpr c10
  have c10b1 : (t198 != 0) = true := bne_iff_ne.mpr c10
  simp only [Option.some.injEq, Prod.mk.injEq] at H
  obtain ⟨rfl, rfl, rfl⟩ := H
  obtain ⟨Ao21, co21, eo21⟩ := Kd.R_slice HO_2.out
  subst eo21
  go_wp2_with (first | ((with_reducible refine gate_callee (f := 75) rfl ?_); refine goesL_ (some 20) rfl rfl Try.func75 (by kernel_rfl) rfl #[.string x0_1] rfl (by (try simp only [List.map_toArray, List.map_cons, List.map_nil]); first | done | rfl | (simp only [List.length_drop, List.length_take]; rfl)) ?_; (with_reducible refine (tuple_one.calls x0_1 t194 t195 t196 t197 t198 _ A9.out).mono ?_); rintro e w22 ⟨rfl, hb⟩; refine ⟨_, rfl, ?_⟩; have n0_ := Aside0.mk (Kd.R_below (rL HO_2.out) hb); have n1_ := Aside0.mk (below_step (hL HB.out) hb); clear HO_2; clear HB; have HO_2 := n0_; have HB := n1_; clear n0_ n1_; (try clear hb); (try clear hb2); (try clear hk); (try clear hi)) | ((with_reducible refine gate_dst (N := 5) rfl ?_); refine box_event ?hg (N := 5) ?hd (cs := #[.int .i64 0, .int .i64 0, .string (⟨#[]⟩ : ByteArray)]) (t := 105) ?hr ?_; (case hd => rfl); (case hg => rfl); (case hr => first | (go_simp; done) | (go_simp; rfl)); intro gb199 hg w23 hbox hb; have n0_ := Aside0.mk (Kd.R_below (Kd.R_elderB (rL HO_2.out) gb199 (Nat.le_of_eq hg.symm)) hb); have n1_ := Aside0.mk (below_step (hL HB.out) hb); have n2_ := Aside0.mk (hbox); have n3_ := Above.mk ((by rw [hg]; exact (below_size (hL HB.out)) : w.heap.size ≤ gb199)); have n4_ := Above.mk ((by rw [hg]; exact (below_size (hL HB.out)) : w.heap.size ≤ gb199)); clear HO_2; clear HB; have HO_2 := n0_; have HB := n1_; have BK199 := n2_; have GW199 := n3_; have GE199 := n4_; clear n0_ n1_ n2_ n3_ n4_; clear hb hbox hg; have hcz24_0 : w23.cell? ⟨gb199, 0, none⟩ = some (.int .i64 0) := (blk_cell BK199.out 0).trans rfl; have hcz24_1 : w23.cell? ⟨gb199, 1, none⟩ = some (.int .i64 0) := (blk_cell BK199.out 1).trans rfl; have hcz24_2 : w23.cell? ⟨gb199, 2, none⟩ = some (.string (⟨#[]⟩ : ByteArray)) := (blk_cell BK199.out 2).trans rfl; have hfz24_0 := blk_frozen BK199.out 0; have hfz24_1 := blk_frozen BK199.out 1; have hfz24_2 := blk_frozen BK199.out 2))
  go_ret3
  exact ⟨_, by first | rfl | (simp [errW_none, errW_some] <;> rfl) | (simp [*, errW_none, errW_some] <;> rfl), by first | exact Kd.R_nil _ _ _ _ _ | exact Kd.N_nil _ _ _ _ _ | exact Kd.V_nil _ _ _ _ _ | exact Kd.Q_nil _ _ _ _ _ | exact Kd.S_nil _ _ _ _ _, hL HB.out⟩
 rw [if_pos c10] at H
 have c10b0 : (t198 == 0) = true := beq_iff_eq.mpr c10
 have c10b1 : (t198 != 0) = false := bne_eq_false_iff_eq.mpr c10
 clear c10
 by_cases c11 : x2_1.length < 4398046511104
 rotate_left
 ·rw [if_neg c11] at H
  exact absurd H (by simp)
 rw [if_pos c11] at H
 have LMc11 := Aside0.mk c11
 clear c11
 obtain ⟨y200, hy200⟩ : ∃ y_ : List (S105), y_ = (x2_1 ++ [(⟨t194, t195, t196⟩ : S105)]) := ⟨_, rfl⟩
 replace H : (if 0 ≤ t197 then (if t197 ≤ (x0_1.size : Int) then (tuple_Cut.l0 kj1 (x0_1.extract (t197 : Int).toNat x0_1.size) y200) else (none)) else (none)) = some (r1, r2, r3) := by first | (rw [hy200]; with_reducible exact H) | (have H2_ := (Option.bind_some _ _).symm.trans H; rw [hy200]; with_reducible exact H2_) | (have H2_ := (Option.bind_some _ _).symm.trans H; with_reducible exact H2_) | with_reducible exact H | (rw [hy200]; exact H) | exact H
 have Ny200 := Aside0.mk hy200
 clear hy200
 by_cases c12 : 0 ≤ t197
 rotate_left
 ·rw [if_neg c12] at H
  exact absurd H (by simp)
 rw [if_pos c12] at H
 have c12b0 := eq_true c12
 have c12b1 : decide (0 ≤ t197) = true := decide_eq_true c12
 clear c12
 by_cases c13 : t197 ≤ (x0_1.size : Int)
 rotate_left
 ·rw [if_neg c13] at H
  exact absurd H (by simp)
 rw [if_pos c13] at H
 have c13b0 := eq_true c13
 have c13b1 : decide (t197 ≤ (x0_1.size : Int)) = true := decide_eq_true c13
 clear c13
 have H' := Aside0.mk H
 clear H
 obtain ⟨Ao14, co14, eo14⟩ := Kd.R_slice HO_2.out
 subst eo14
 try go_wp2_with (first | ((with_reducible refine gate_callee (f := 75) rfl ?_); refine goesL_ (some 20) rfl rfl Try.func75 (by kernel_rfl) rfl #[.string x0_1] rfl (by (try simp only [List.map_toArray, List.map_cons, List.map_nil]); first | done | rfl | (simp only [List.length_drop, List.length_take]; rfl)) ?_; (with_reducible refine (tuple_one.calls x0_1 t194 t195 t196 t197 t198 _ A9.out).mono ?_); rintro e w15 ⟨rfl, hb⟩; refine ⟨_, rfl, ?_⟩; have n0_ := Aside0.mk (Kd.R_below (rL HO_2.out) hb); have n1_ := Aside0.mk (below_step (hL HB.out) hb); clear HO_2; clear HB; have HO_2 := n0_; have HB := n1_; clear n0_ n1_; (try clear hb); (try clear hb2); (try clear hk); (try clear hi)) | ((with_reducible refine gate_dst (N := 5) rfl ?_); refine box_event ?hg (N := 5) ?hd (cs := #[.int .i64 0, .int .i64 0, .string (⟨#[]⟩ : ByteArray)]) (t := 105) ?hr ?_; (case hd => rfl); (case hg => rfl); (case hr => first | (go_simp; done) | (go_simp; rfl)); intro gb199 hg w16 hbox hb; have n0_ := Aside0.mk (Kd.R_below (Kd.R_elderB (rL HO_2.out) gb199 (Nat.le_of_eq hg.symm)) hb); have n1_ := Aside0.mk (below_step (hL HB.out) hb); have n2_ := Aside0.mk (hbox); have n3_ := Above.mk ((by rw [hg]; exact (below_size (hL HB.out)) : w.heap.size ≤ gb199)); have n4_ := Above.mk ((by rw [hg]; exact (below_size (hL HB.out)) : w.heap.size ≤ gb199)); clear HO_2; clear HB; have HO_2 := n0_; have HB := n1_; have BK199 := n2_; have GW199 := n3_; have GE199 := n4_; clear n0_ n1_ n2_ n3_ n4_; clear hb hbox hg; have hcz17_0 : w16.cell? ⟨gb199, 0, none⟩ = some (.int .i64 0) := (blk_cell BK199.out 0).trans rfl; have hcz17_1 : w16.cell? ⟨gb199, 1, none⟩ = some (.int .i64 0) := (blk_cell BK199.out 1).trans rfl; have hcz17_2 : w16.cell? ⟨gb199, 2, none⟩ = some (.string (⟨#[]⟩ : ByteArray)) := (blk_cell BK199.out 2).trans rfl; have hfz17_0 := blk_frozen BK199.out 0; have hfz17_1 := blk_frozen BK199.out 1; have hfz17_2 := blk_frozen BK199.out 2))
 have n0_ : Aside0 (Kd.R k105 105 (((w16.setCell ⟨gb199, 0, none⟩ (.int .i64 t194)).setCell ⟨gb199, 1, none⟩ (.int .i64 t195)).setCell ⟨gb199, 2, none⟩ (.string t196)) w.heap.size (fun k_ => k_ ≠ gb199) (.slice Ao14 x2_1.length co14) x2_1) := ⟨by (with_reducible repeat (first | apply Kd.R_alloc | apply Kd.R_drewN | apply Kd.R_drew)); exact Kd.R_mono (Kd.R_far (p := ⟨gb199, 2, none⟩) (Kd.R_far (p := ⟨gb199, 1, none⟩) (Kd.R_far (p := ⟨gb199, 0, none⟩) (Kd.R_mono HO_2.out (fun k_ hk => (⟨hk, hk.2⟩ : _ ∧ k_ ≠ gb199))) (fun _ hk => hk.2) (.int .i64 t194)) (fun _ hk => hk.2) (.int .i64 t195)) (fun _ hk => hk.2) (.string t196)) (fun _ hk => hk.1.2)⟩
 have n1_ : Aside0 ((((w16.setCell ⟨gb199, 0, none⟩ (.int .i64 t194)).setCell ⟨gb199, 1, none⟩ (.int .i64 t195)).setCell ⟨gb199, 2, none⟩ (.string t196)).heap[gb199]? = some (.cells #[.int .i64 t194, .int .i64 t195, .string t196] 105 (0, 0))) := ⟨by (with_reducible repeat (first | refine blk_drewN ?_ _ | refine blk_drew ?_ | refine blk_alloc ?_ _)); refine blk_put (cs := #[.int .i64 t194, .int .i64 t195, .string (⟨#[]⟩ : ByteArray)]) ?_ 2 _ rfl; (with_reducible repeat (first | refine blk_drewN ?_ _ | refine blk_drew ?_ | refine blk_alloc ?_ _)); refine blk_put (cs := #[.int .i64 t194, .int .i64 0, .string (⟨#[]⟩ : ByteArray)]) ?_ 1 _ rfl; (with_reducible repeat (first | refine blk_drewN ?_ _ | refine blk_drew ?_ | refine blk_alloc ?_ _)); refine blk_put (cs := #[.int .i64 0, .int .i64 0, .string (⟨#[]⟩ : ByteArray)]) ?_ 0 _ rfl; exact bL BK199.out⟩
 have n2_ : Aside0 (Below w.heap.size w (((w16.setCell ⟨gb199, 0, none⟩ (.int .i64 t194)).setCell ⟨gb199, 1, none⟩ (.int .i64 t195)).setCell ⟨gb199, 2, none⟩ (.string t196))) := ⟨hL HB.out⟩
 (try clear HO_2)
 (try clear BK199)
 (try clear HB)
 generalize (((w16.setCell ⟨gb199, 0, none⟩ (.int .i64 t194)).setCell ⟨gb199, 1, none⟩ (.int .i64 t195)).setCell ⟨gb199, 2, none⟩ (.string t196)) = w18 at n0_ n1_ n2_ ⊢
 have HO_2 := n0_
 have BK199 := n1_
 have HB := n2_
 clear n0_ n1_ n2_
 have n0_ := Aside0.mk (Kd.R_drew HO_2.out)
 have n1_ := Aside0.mk (blk_drew BK199.out)
 have n2_ := Aside0.mk (below_drew1 HB.out)
 clear HO_2
 clear BK199
 clear HB
 have HO_2 := n0_
 have BK199 := n1_
 have HB := n2_
 clear n0_ n1_ n2_
 refine start_ (n := 9) (S := fun w' => w'.cell? ⟨gb199, 0, none⟩ = some (.int .i64 t194) ∧ w'.cell? ⟨gb199, 1, none⟩ = some (.int .i64 t195) ∧ w'.cell? ⟨gb199, 2, none⟩ = some (.string t196)) (ds := []) #[false, false, false, false, false, false, false, false, false] (by kernel_rfl) rfl rfl ⟨(blk_cell BK199.out 0).trans rfl, (blk_cell BK199.out 1).trans rfl, (blk_cell BK199.out 2).trans rfl⟩ (fun hHeld => ?_); refine with_tabW tuple_Cut.tab7 tuple_Cut.bits7 (fun HT_ HW_ => ?_)
 generalize w18.drew = w19 at HO_2 BK199 HB hHeld ⊢
 refine pure_ (i := 0) (N := some 27) (v := ?_) (a' := ?_) #[true, false, false, false, false, false, false, false, false] rfl rfl (any_of HT_.out (by kernel_rfl)) (fun _ _ _ h => h) (Or.inl ⟨by rfl, ?_⟩) ?_ ?_
 rotate_left
 ·intro w'
  go_simp
  with_reducible rfl
 rotate_left
 ·simp only [Act.put, sT, sZ, sS, i64_w, i32_w]
  rfl
 refine pure_ (i := 4) (N := some 31) (v := ?_) (a' := ?_) #[true, false, false, false, true, false, false, false, false] rfl rfl (any_of HT_.out (by kernel_rfl)) (fun _ _ _ h => h) (Or.inl ⟨by rfl, ?_⟩) ?_ ?_
 rotate_left
 ·intro w'
  go_simp
  with_reducible rfl
 rotate_left
 ·simp only [Act.put, sT, sZ, sS, i64_w, i32_w]
  rfl
 refine pure_ (i := 5) (N := some 32) (v := ?_) (a' := ?_) #[true, false, false, false, true, true, false, false, false] rfl rfl (any_of HT_.out (by kernel_rfl)) (fun _ _ _ h => h) (Or.inl ⟨by rfl, ?_⟩) ?_ ?_
 rotate_left
 ·intro w'
  go_simp
  with_reducible rfl
 rotate_left
 ·simp only [Act.put, sT, sZ, sS, i64_w, i32_w]
  rfl
 refine pure_ (i := 6) (N := some 33) (v := ?_) (a' := ?_) #[true, false, false, false, true, true, true, false, false] rfl rfl (any_of HT_.out (by kernel_rfl)) (fun _ _ _ h => h) (Or.inl ⟨by rfl, ?_⟩) ?_ ?_
 rotate_left
 ·intro w'
  go_simp
  with_reducible rfl
 rotate_left
 ·simp only [Act.put, sT, sZ, sS, i64_w, i32_w]
  rfl
 refine take_ (i := 1) (N := some 28) (v := ?_) (a' := ?_) #[true, true, false, false, true, true, true, false, false] rfl rfl (take_ofW HT_.out HW_.out (by kernel_rfl)) (fun _ _ _ h => h) (Or.inl ⟨by rfl, ?_⟩) hHeld ?_ ?_
 rotate_left
 ·rintro w' ⟨s0, s1, s2⟩
  go_simp
  with_reducible rfl
 rotate_left
 ·simp only [Act.put, sT, sZ, sS, i64_w, i32_w]
  rfl
 refine one_ (i := 2) (N := some 29) #[true, true, true, false, true, true, true, false, false] rfl rfl (one_of HT_.out (by kernel_rfl)) (by decide) (fun K hK => ?_)
 refine value_ (w1 := ?_) (v := ?_) (by rfl) rfl ?_ ?_
 rotate_left 2
 ·go_simp
  constructor
  ·rfl
  ·rfl
 refine hK.out _ _ ⟨(blk_cell (blk_alloc BK199.out _) 0).trans rfl, (blk_cell (blk_alloc BK199.out _) 1).trans rfl, (blk_cell (blk_alloc BK199.out _) 2).trans rfl⟩ (fun hHeld => ?_)
 clear hK K
 refine norm_ (a' := ?_) ?_ ?_
 rotate_left
 ·show Act.put _ (some 29) _ = _
  simp only [Act.put, sT, sZ, sS, i64_w, i32_w]
  rfl
 refine one_ (i := 3) (N := some 30) #[true, true, true, true, true, true, true, false, false] rfl rfl (one_of HT_.out (by kernel_rfl)) (by decide) (fun K hK => ?_)
 refine Kd.R_append_step k105 (w0 := w) w.heap.size (by rfl) (.tmp 27) (.tmp 29) 73 105 (.agg #[(.int .i64 0), (.int .i64 0), (.string ⟨#[]⟩)]) 32 rfl Try.underlying73 info105 rfl (by decide) (by omega) (.slice Ao14 x2_1.length co14) x2_1 (⟨t194, t195, t196⟩ : S105) [.int .i64 t194, .int .i64 t195, .string t196] (fun k_ => k_ ≠ gb199) (fun _ => False) rfl rfl ?aP (fun _ hk => hk.elim) ?aF ?aO ?aB ?aS ?aL ?_
 (case aP => exact k105_mkM _ _ _ (⟨t194, t195, t196⟩ : S105))
 (case aB => exact (hL HB.out))
 (case aF => exact (fun k_ hk => Kd.freshB (g := gb199) (o := .cells #[.int .i64 t194, .int .i64 t195, .string t196] 105 (0, 0)) (bL BK199.out) k_ hk))
 (case aO => exact (rL HO_2.out))
 (case aS => exact (below_size (hL HB.out)))
 (case aL => have := LMc11.out; omega)
 intro v201 w20 ho hb hg hat
 rw [← Ny200.out] at ho
 have n0_ := Aside0.mk (blk_grown (g := gb199) (o := .cells #[.int .i64 t194, .int .i64 t195, .string t196] 105 (0, 0)) (bL BK199.out) hg (Kd.R_away HO_2.out (fun _ hk => hk)))
 have n1_ := Aside0.mk (hb)
 have n2_ := Aside0.mk (ho)
 clear BK199
 clear HB
 clear HO_2
 have BK199 := n0_
 have HB := n1_
 have HO202 := n2_
 clear n0_ n1_ n2_
 clear ho hb hg hat
 refine hK.out _ _ ⟨(blk_cell BK199.out 0).trans rfl, (blk_cell BK199.out 1).trans rfl, (blk_cell BK199.out 2).trans rfl⟩ (fun hHeld => ?_)
 clear hK K
 refine norm_ (a' := ?_) ?_ ?_
 rotate_left
 ·show Act.put _ (some 30) _ = _
  simp only [Act.put, sT, sZ, sS, i64_w, i32_w]
  rfl
 refine pure_ (i := 7) (N := some 2) (v := ?_) (a' := ?_) #[true, true, true, true, true, true, true, true, false] rfl rfl (any_of HT_.out (by kernel_rfl)) (fun _ _ _ h => h) (Or.inl ⟨by rfl, ?_⟩) ?_ ?_
 rotate_left
 ·intro w'
  go_simp
  with_reducible rfl
 rotate_left
 ·simp only [Act.put, sT, sZ, sS, i64_w, i32_w]
  rfl
 refine pure_ (i := 8) (N := some 0) (v := ?_) (a' := ?_) #[true, true, true, true, true, true, true, true, true] rfl rfl (any_of HT_.out (by kernel_rfl)) (fun _ _ _ h => h) (Or.inl ⟨by rfl, ?_⟩) ?_ ?_
 rotate_left
 ·intro w'
  go_simp
  with_reducible rfl
 rotate_left
 ·simp only [Act.put, sT, sZ, sS, i64_w, i32_w]
  rfl
 refine done_ (done_of HT_.out (by kernel_rfl)) ?_
 try go_wp2
 go_roundg kj1
 case measure => have := HK1.out; have := HJ1.out; omega
 case rel => exact ⟨(x0_1.extract (t197 : Int).toNat x0_1.size), (y200), (by first | rfl | (simp; done) | (simp [*]; done) | (simp [ne_nil_bytes]; done) | (simp [eq_nil_bytes]; done)), H', ⟨by have := HK1.out; have := HJ1.out; omega⟩, ⟨by (with_reducible repeat (first | apply Kd.R_alloc | apply Kd.R_drewN | apply Kd.R_drew)); exact Kd.R_mono HO202.out (fun _ hk => trivial)⟩, ⟨hL HB.out⟩⟩

/-! ### record_null: function 69 -/
def record_null.f (a0_0 : Int) (a0_1 : Int) (a0_2 : ByteArray) : Option (Bool) := some (a0_0 == 0)
set_option maxHeartbeats 8000000 in
set_option maxRecDepth 100000 in
theorem record_null.calls (a0_0 : Int) (a0_1 : Int) (a0_2 : ByteArray) (r : Bool) (w : World) (h : record_null.f a0_0 a0_1 a0_2 = some r) :
  Calls Try.prog 69 #[.agg #[.int .i64 a0_0, .int .i64 a0_1, .string a0_2]] w fun e w' => e = .returned (.bool r) ∧ Below w.heap.size w w' := by
 have hu105 := Try.underlying105
 have HB := Aside0.mk (Below.refl w.heap.size w)
 have H : (some (a0_0 == 0)) = some r := h
 clear h
 obtain rfl := Option.some.inj H
 simp only [Option.some.injEq, Prod.mk.injEq] at H
 obtain ⟨rfl⟩ := H
 go_enter Try.func69, Try.ntmps69
 go_wp2_with (first | ((with_reducible refine gate_dst (N := 1) rfl ?_); refine box_event ?hg (N := 1) ?hd (cs := #[.int .i64 a0_0, .int .i64 a0_1, .string a0_2]) (t := 105) ?hr ?_; (case hd => rfl); (case hg => rfl); (case hr => first | (go_simp; done) | (go_simp; rfl)); intro gb203 hg w2 hbox hb; have n0_ := Aside0.mk (below_step (hL HB.out) hb); have n1_ := Aside0.mk (hbox); have n2_ := Above.mk ((by rw [hg]; exact (below_size (hL HB.out)) : w.heap.size ≤ gb203)); have n3_ := Above.mk ((by rw [hg]; exact (below_size (hL HB.out)) : w.heap.size ≤ gb203)); clear HB; have HB := n0_; have BK203 := n1_; have GW203 := n2_; have GE203 := n3_; clear n0_ n1_ n2_ n3_; clear hb hbox hg; have hcz3_0 : w2.cell? ⟨gb203, 0, none⟩ = some (.int .i64 a0_0) := (blk_cell BK203.out 0).trans rfl; have hcz3_1 : w2.cell? ⟨gb203, 1, none⟩ = some (.int .i64 a0_1) := (blk_cell BK203.out 1).trans rfl; have hcz3_2 : w2.cell? ⟨gb203, 2, none⟩ = some (.string a0_2) := (blk_cell BK203.out 2).trans rfl; have hfz3_0 := blk_frozen BK203.out 0; have hfz3_1 := blk_frozen BK203.out 1; have hfz3_2 := blk_frozen BK203.out 2))
 go_ret
 exact ⟨by first | rfl | (simp [errW_none, errW_some] <;> rfl) | (simp [*, errW_none, errW_some] <;> rfl), hL HB.out⟩

/-! ### record_null_v11: what a variable holds -/
abbrev record_null_v11.f := @record_null.f
theorem record_null_v11.calls : type_of% @record_null.calls := @record_null.calls

end Go.Proofs.Ytdaikljbljcagaa.PAll
