-- Written by a program of this session for this claim (mp.py, over the kit's print); Lean checks it.
import Derived.Test.YtdaikljbljcagaaPAllx0
import Derived.Test.YtdaikljbljcagaaPAllx19
import Derived.Test.YtdaikljbljcagaaPAllx20
namespace Go.Proofs.Ytdaikljbljcagaa.PAll
open Go.RowKit Go.Proofs.YtdaikljbljcagaaW.PrintWords Go.Proofs.YtdaikljbljcagaaW.PrintLast Go.Proofs.YtdaikljbljcagaaW.PrintMore Go.Proofs.Ytdaikljbljcagaa.Fv Go.Proofs.Ytdaikljbljcagaa.Hl
attribute [local go_sem] max2_int min2_int max_two min_two max_three min_three max_four min_four str_gtr str_leq str_geq cell_set2   -- for this text's walks alone
set_option linter.unusedVariables false
set_option linter.unusedSimpArgs false


/-! ### shelfmarkref04_Parse: function 41 -/
def shelfmarkref04_Parse.j0 : Nat → ByteArray → Bool → Option (Int × (List (S105)) × ByteArray × Int)
 | 0, _, _ => none
 | k + 1, x0, x20 => if x20 = true then (some (0, ([] : List (S105)), (⟨#[]⟩ : ByteArray), 3)) else (if 2 ≤ (x0.size : Int) then ((shelfmarkref03_Cut.f k (x0.extract 2 x0.size)).bind fun bt284 => (if bt284.2.2 = 0 then (if (bt284.1.length : Int) < 1 then (some (0, ([] : List (S105)), (⟨#[]⟩ : ByteArray), 3)) else (if (bt284.1.length : Int) > 2 then (some (0, ([] : List (S105)), (⟨#[]⟩ : ByteArray), 3)) else ((shelfmarkref04_full.f k bt284.1).bind fun t290 => (if t290 = true then (if bt284.2.1.toList = ([] : List UInt8) then (some (0, ([] : List (S105)), (⟨#[]⟩ : ByteArray), 3)) else (if 1 ≤ (bt284.2.1.size : Int) then ((shelfmarkref04_Key.f (bt284.2.1.extract 1 bt284.2.1.size)).bind fun t291 => (if t291 = true then (if 1 < (x0.size : Int) then (some (wrap64 (bt x0 1), bt284.1, bt284.2.1.extract 1 bt284.2.1.size, 0)) else (none)) else (some (0, ([] : List (S105)), (⟨#[]⟩ : ByteArray), 3)))) else (none))) else (some (0, ([] : List (S105)), (⟨#[]⟩ : ByteArray), 3)))))) else (some (0, ([] : List (S105)), (⟨#[]⟩ : ByteArray), bt284.2.2)))) else (none))
def shelfmarkref04_Parse.f (k : Nat) (a0 : ByteArray) : Option (Int × (List (S105)) × ByteArray × Int) := if (a0.size : Int) < 2 then (some (0, ([] : List (S105)), (⟨#[]⟩ : ByteArray), 2)) else (if 0 < (a0.size : Int) then (if (bt a0 0) = 0 then (if 1 < (a0.size : Int) then (if (bt a0 1) < 1 then (shelfmarkref04_Parse.j0 k a0 true) else (shelfmarkref04_Parse.j0 k a0 (decide ((bt a0 1) > 6)))) else (none)) else (shelfmarkref04_Parse.j0 k a0 true)) else (none))
theorem shelfmarkref04_Parse.mono_l : ∀ k, (∀ y0 y1, LeO (shelfmarkref04_Parse.j0 k y0 y1) (shelfmarkref04_Parse.j0 (k + 1) y0 y1))
 | 0 => fun _ _ r h => by simp [shelfmarkref04_Parse.j0] at h
 | k + 1 => by
  have ih0 := shelfmarkref04_Parse.mono_l k
  ·intro y0 y1
   unfold shelfmarkref04_Parse.j0
   repeat' first
   | (with_reducible exact ih0 _ _)
   | (with_reducible exact shelfmarkref03_Cut.mono _ _)
   | (with_reducible exact shelfmarkref04_full.mono _ _)
   | (with_reducible exact LeO.refl _)
   | (with_reducible exact LeO.none _)
   | (with_reducible refine LeO.ite ?_ ?_)
   | (with_reducible refine LeO.bind ?_ (fun _ => ?_))
   | exact ih0 _ _
   | exact shelfmarkref03_Cut.mono _ _
   | exact shelfmarkref04_full.mono _ _
   | exact LeO.none _
   | refine LeO.ite ?_ ?_
   | refine LeO.bind ?_ (fun _ => ?_)
theorem shelfmarkref04_Parse.mono : ∀ a0 k, LeO (shelfmarkref04_Parse.f k a0) (shelfmarkref04_Parse.f (k + 1) a0) := by
 intro a0 k
 have ih0 := shelfmarkref04_Parse.mono_l k
 unfold shelfmarkref04_Parse.f
 repeat' first
   | (with_reducible exact ih0 _ _)
   | (with_reducible exact shelfmarkref03_Cut.mono _ _)
   | (with_reducible exact shelfmarkref04_full.mono _ _)
   | (with_reducible exact LeO.refl _)
   | (with_reducible exact LeO.none _)
   | (with_reducible refine LeO.ite ?_ ?_)
   | (with_reducible refine LeO.bind ?_ (fun _ => ?_))
   | exact ih0 _ _
   | exact shelfmarkref03_Cut.mono _ _
   | exact shelfmarkref04_full.mono _ _
   | exact LeO.none _
   | refine LeO.ite ?_ ?_
   | refine LeO.bind ?_ (fun _ => ?_)
def shelfmarkref04_Parse.T10 : Bool × List (List Nat × List Nat) := (true, [([], []), ([0], [0]), ([1], [1]), ([], []), ([3], [3]), ([], []), ([5], [5]), ([6], [6]), ([2, 4, 7], [2, 4, 7]), ([8, 0, 1, 2, 3, 4, 5, 6, 7, 8], [8])])
def shelfmarkref04_Parse.B10 : List Nat := [0, 1, 3, 0, 8, 0, 32, 96, 255, 511]
theorem shelfmarkref04_Parse.tab10 : rtab .any (opsOf Try.f41 10) = shelfmarkref04_Parse.T10 := by kernel_rfl
theorem shelfmarkref04_Parse.bits10 : waitsOk shelfmarkref04_Parse.T10.2 shelfmarkref04_Parse.B10 = true := by kernel_rfl
set_option maxHeartbeats 8000000 in
set_option maxRecDepth 100000 in
theorem shelfmarkref04_Parse.calls (k : Nat) (a0 : ByteArray) (r1 : Int) (r2 : List (S105)) (r3 : ByteArray) (r4 : Int) (w : World) (h : shelfmarkref04_Parse.f k a0 = some (r1, r2, r3, r4)) :
  Calls Try.prog 41 #[.string a0] w fun e w' => ∃ v1_ : Value, e = .returned (.agg #[.int .i64 r1, v1_, .string r3, .int .i64 r4]) ∧ Kd.R k105 105 w' w.heap.size (fun _ => True) v1_ r2 ∧ Below w.heap.size w w' := by
 have hu75 := Try.underlying75
 have hu95 := Try.underlying95
 have HB := Aside0.mk (Below.refl w.heap.size w)
 have H : (if (a0.size : Int) < 2 then (some (0, ([] : List (S105)), (⟨#[]⟩ : ByteArray), 2)) else (if 0 < (a0.size : Int) then (if (bt a0 0) = 0 then (if 1 < (a0.size : Int) then (if (bt a0 1) < 1 then (shelfmarkref04_Parse.j0 k a0 true) else (shelfmarkref04_Parse.j0 k a0 (decide ((bt a0 1) > 6)))) else (none)) else (shelfmarkref04_Parse.j0 k a0 true)) else (none))) = some (r1, r2, r3, r4) := h
 clear h
 by_cases c2 : (a0.size : Int) < 2
 ·rw [if_pos c2] at H
  have c2b0 : decide ((a0.size : Int) < 2) = true := decide_eq_true c2
  have c2b1 : decide (a0.size < 2) = true := decide_eq_true (by omega)
  clear c2
  simp only [Option.some.injEq, Prod.mk.injEq] at H
  obtain ⟨rfl, rfl, rfl, rfl⟩ := H
  go_enter Try.func41, Try.ntmps41
  go_wp2_with (first | ((with_reducible refine gate_dst (N := 2) rfl ?_); (try (refine gate_guard (by rfl) ?_; dsimp only)); refine box_event ?hg (N := 2) ?hd (cs := #[.int .i64 0, .slice none 0 0, .string (⟨#[]⟩ : ByteArray), .int .i64 0]) (t := 75) ?hr ?_; (case hd => rfl); (case hg => rfl); (case hr => first | (go_simp; done) | (go_simp; rfl)); intro gb283 hg w3 hbox hb; have n0_ := Aside0.mk (below_step (hL HB.out) hb); have n1_ := Aside0.mk (hbox); have n2_ := Above.mk ((by rw [hg]; exact (below_size (hL HB.out)) : w.heap.size ≤ gb283)); have n3_ := Above.mk ((by rw [hg]; exact (below_size (hL HB.out)) : w.heap.size ≤ gb283)); clear HB; have HB := n0_; have BK283 := n1_; have GW283 := n2_; have GE283 := n3_; clear n0_ n1_ n2_ n3_; clear hb hbox hg; have hcz4_0 : w3.cell? ⟨gb283, 0, none⟩ = some (.int .i64 0) := (blk_cell BK283.out 0).trans rfl; have hcz4_1 : w3.cell? ⟨gb283, 1, none⟩ = some (.slice none 0 0) := (blk_cell BK283.out 1).trans rfl; have hcz4_2 : w3.cell? ⟨gb283, 2, none⟩ = some (.string (⟨#[]⟩ : ByteArray)) := (blk_cell BK283.out 2).trans rfl; have hcz4_3 : w3.cell? ⟨gb283, 3, none⟩ = some (.int .i64 0) := (blk_cell BK283.out 3).trans rfl; have hfz4_0 := blk_frozen BK283.out 0; have hfz4_1 := blk_frozen BK283.out 1; have hfz4_2 := blk_frozen BK283.out 2; have hfz4_3 := blk_frozen BK283.out 3))
  refine bodyPost_ret (results_cell_row rfl _ _ gb283 75 #[.int .i64 0, .slice none 0 0, .string (⟨#[]⟩ : ByteArray), .int .i64 2] (0, 0) _ rfl (by (with_reducible repeat (first | refine blk_drewN ?_ _ | refine blk_drew ?_ | refine blk_alloc ?_ _)); refine blk_put (cs := #[.int .i64 0, .slice none 0 0, .string (⟨#[]⟩ : ByteArray), .int .i64 0]) ?_ 3 _ rfl; (with_reducible repeat (first | refine blk_drewN ?_ _ | refine blk_drew ?_ | refine blk_alloc ?_ _)); refine blk_put (cs := #[.int .i64 0, .slice none 0 0, .string (⟨#[]⟩ : ByteArray), .int .i64 0]) ?_ 2 _ rfl; (with_reducible repeat (first | refine blk_drewN ?_ _ | refine blk_drew ?_ | refine blk_alloc ?_ _)); refine blk_put (cs := #[.int .i64 0, .slice none 0 0, .string (⟨#[]⟩ : ByteArray), .int .i64 0]) ?_ 1 _ rfl; (with_reducible repeat (first | refine blk_drewN ?_ _ | refine blk_drew ?_ | refine blk_alloc ?_ _)); refine blk_put (cs := #[.int .i64 0, .slice none 0 0, .string (⟨#[]⟩ : ByteArray), .int .i64 0]) ?_ 0 _ rfl; exact bL BK283.out) Try.underlying75 rfl (by kernel_rfl)) rfl ?_
  exact ⟨_, by first | rfl | (simp [errW_none, errW_some] <;> rfl) | (simp [*, errW_none, errW_some] <;> rfl), by first | exact Kd.R_nil _ _ _ _ _ | exact Kd.N_nil _ _ _ _ _ | exact Kd.V_nil _ _ _ _ _ | exact Kd.Q_nil _ _ _ _ _ | exact Kd.S_nil _ _ _ _ _, hL HB.out⟩
 rw [if_neg c2] at H
 have c2b0 : decide ((a0.size : Int) < 2) = false := decide_eq_false c2
 have c2b1 : decide (a0.size < 2) = false := decide_eq_false (by omega)
 clear c2
 have HC5 := Aside0.mk H
 clear H
 go_enter Try.func41, Try.ntmps41
 go_upto_region 3 with (first | ((with_reducible refine gate_dst (N := 2) rfl ?_); (try (refine gate_guard (by rfl) ?_; dsimp only)); refine box_event ?hg (N := 2) ?hd (cs := #[.int .i64 0, .slice none 0 0, .string (⟨#[]⟩ : ByteArray), .int .i64 0]) (t := 75) ?hr ?_; (case hd => rfl); (case hg => rfl); (case hr => first | (go_simp; done) | (go_simp; rfl)); intro gb283 hg w6 hbox hb; have n0_ := Aside0.mk (below_step (hL HB.out) hb); have n1_ := Aside0.mk (hbox); have n2_ := Above.mk ((by rw [hg]; exact (below_size (hL HB.out)) : w.heap.size ≤ gb283)); have n3_ := Above.mk ((by rw [hg]; exact (below_size (hL HB.out)) : w.heap.size ≤ gb283)); clear HB; have HB := n0_; have BK283 := n1_; have GW283 := n2_; have GE283 := n3_; clear n0_ n1_ n2_ n3_; clear hb hbox hg))
 (try simp only [Act.put, sT, sZ, sS])
 go_cut [20] (fun v20 wc => ∃ (kq : Nat) (x20_4 : Bool), v20 = .bool x20_4 ∧ Aside0 (shelfmarkref04_Parse.j0 kq a0 x20_4 = some (r1, r2, r3, r4)) ∧ Aside0 (kq ≤ k) ∧ Aside0 (wc.heap[gb283]? = some (.cells #[.int .i64 0, (.slice none 0 0), .string (⟨#[]⟩ : ByteArray), .int .i64 0] 75 (0, 0))) ∧ Aside0 (Below w.heap.size w wc))
 case first =>
  have H := HC5.out
  clear HC5
  by_cases c7 : 0 < (a0.size : Int)
  rotate_left
  ·rw [if_neg c7] at H
   exact absurd H (by simp)
  rw [if_pos c7] at H
  have c7b0 : decide (0 < (a0.size : Int)) = true := decide_eq_true c7
  have c7b1 : decide (0 < a0.size) = true := decide_eq_true (by omega)
  clear c7
  (first | rw [c7b0] | (simp only [i64_w, i32_w]; rw [c7b0]) | skip)
  by_cases c9 : (bt a0 0) = 0
  rotate_left
  ·rw [if_neg c9] at H
   have c9b0 : ((bt a0 0) == 0) = false := beq_eq_false_iff_ne.mpr c9
   have c9b1 : ((bt a0 0) != 0) = true := bne_iff_ne.mpr c9
   have H' := Aside0.mk H
   clear H
   have p8 : 0 ≤ (0 : Int) := (by omega)
   have q8 : 0 < a0.size := (by have : (0 : Int) < (a0.size : Int) := of_decide_eq_true (by first | (with_reducible assumption) | assumption); omega)
   have hx8 : ∀ h : 0 < a0.size, ((a0[0]'h).toNat : Int) = bt a0 0 := bt_at a0 0
   clear p8
   have qi8 : (0 < (a0.size : Int)) = True := eq_true (of_decide_eq_true (by first | (with_reducible assumption) | assumption))
   replace q8 := eq_true q8
   go_wp2
   go_meet
   case rel => exact ⟨_, (true), (by first | rfl | (simp; done) | (simp [*]; done) | (simp [ne_nil_bytes]; done) | (simp [eq_nil_bytes]; done)), H', ⟨by first | omega | exact Nat.le_refl _⟩, ⟨by exact bL BK283.out⟩, ⟨hL HB.out⟩⟩
  rw [if_pos c9] at H
  have c9b0 : ((bt a0 0) == 0) = true := beq_iff_eq.mpr c9
  have c9b1 : ((bt a0 0) != 0) = false := bne_eq_false_iff_eq.mpr c9
  clear c9
  by_cases c10 : 1 < (a0.size : Int)
  rotate_left
  ·rw [if_neg c10] at H
   exact absurd H (by simp)
  rw [if_pos c10] at H
  have c10b0 : decide (1 < (a0.size : Int)) = true := decide_eq_true c10
  have c10b1 : decide (1 < a0.size) = true := decide_eq_true (by omega)
  clear c10
  by_cases c12 : (bt a0 1) < 1
  ·rw [if_pos c12] at H
   have c12b0 : decide ((bt a0 1) < 1) = true := decide_eq_true c12
   clear c12
   have H' := Aside0.mk H
   clear H
   have p8 : 0 ≤ (0 : Int) := (by omega)
   have q8 : 0 < a0.size := (by have : (0 : Int) < (a0.size : Int) := of_decide_eq_true (by first | (with_reducible assumption) | assumption); omega)
   have hx8 : ∀ h : 0 < a0.size, ((a0[0]'h).toNat : Int) = bt a0 0 := bt_at a0 0
   clear p8
   have qi8 : (0 < (a0.size : Int)) = True := eq_true (of_decide_eq_true (by first | (with_reducible assumption) | assumption))
   replace q8 := eq_true q8
   have p11 : 0 ≤ (1 : Int) := (by omega)
   have q11 : 1 < a0.size := (by have : (1 : Int) < (a0.size : Int) := of_decide_eq_true (by first | (with_reducible assumption) | assumption); omega)
   have hx11 : ∀ h : 1 < a0.size, ((a0[1]'h).toNat : Int) = bt a0 1 := bt_at a0 1
   clear p11
   have qi11 : (1 < (a0.size : Int)) = True := eq_true (of_decide_eq_true (by first | (with_reducible assumption) | assumption))
   replace q11 := eq_true q11
   go_wp2
   go_meet
   case rel => exact ⟨_, (true), (by first | rfl | (simp; done) | (simp [*]; done) | (simp [ne_nil_bytes]; done) | (simp [eq_nil_bytes]; done)), H', ⟨by first | omega | exact Nat.le_refl _⟩, ⟨by exact bL BK283.out⟩, ⟨hL HB.out⟩⟩
  rw [if_neg c12] at H
  have c12b0 : decide ((bt a0 1) < 1) = false := decide_eq_false c12
  clear c12
  have H' := Aside0.mk H
  clear H
  have p8 : 0 ≤ (0 : Int) := (by omega)
  have q8 : 0 < a0.size := (by have : (0 : Int) < (a0.size : Int) := of_decide_eq_true (by first | (with_reducible assumption) | assumption); omega)
  have hx8 : ∀ h : 0 < a0.size, ((a0[0]'h).toNat : Int) = bt a0 0 := bt_at a0 0
  clear p8
  have qi8 : (0 < (a0.size : Int)) = True := eq_true (of_decide_eq_true (by first | (with_reducible assumption) | assumption))
  replace q8 := eq_true q8
  have p11 : 0 ≤ (1 : Int) := (by omega)
  have q11 : 1 < a0.size := (by have : (1 : Int) < (a0.size : Int) := of_decide_eq_true (by first | (with_reducible assumption) | assumption); omega)
  have hx11 : ∀ h : 1 < a0.size, ((a0[1]'h).toNat : Int) = bt a0 1 := bt_at a0 1
  clear p11
  have qi11 : (1 < (a0.size : Int)) = True := eq_true (of_decide_eq_true (by first | (with_reducible assumption) | assumption))
  replace q11 := eq_true q11
  have p13 : 0 ≤ (1 : Int) := (by omega)
  have q13 : 1 < a0.size := (by have : (1 : Int) < (a0.size : Int) := of_decide_eq_true (by first | (with_reducible assumption) | assumption); omega)
  have hx13 : ∀ h : 1 < a0.size, ((a0[1]'h).toNat : Int) = bt a0 1 := bt_at a0 1
  clear p13
  have qi13 : (1 < (a0.size : Int)) = True := eq_true (of_decide_eq_true (by first | (with_reducible assumption) | assumption))
  replace q13 := eq_true q13
  go_wp2
  go_meet
  case rel => exact ⟨_, (decide ((bt a0 1) > 6)), (by first | rfl | (simp; done) | (simp [*]; done) | (simp [ne_nil_bytes]; done) | (simp [eq_nil_bytes]; done)), H', ⟨by first | omega | exact Nat.le_refl _⟩, ⟨by exact bL BK283.out⟩, ⟨hL HB.out⟩⟩
 clear HC5
 try clear c1
 try clear p1
 try clear q1
 try clear hx1
 try clear qi1
 try clear c2
 try clear c2b0
 try clear c2b0z
 try clear c2b1
 try clear c2b1z
 try clear p2
 try clear c4
 try clear c7
 try clear c7b0
 try clear c7b0z
 try clear c7b1
 try clear c7b1z
 try clear p8
 try clear q8
 try clear hx8
 try clear qi8
 try clear c9
 try clear c9b0
 try clear c9b0z
 try clear c9b1
 try clear c9b1z
 try clear c10
 try clear c10b0
 try clear c10b0z
 try clear c10b1
 try clear c10b1z
 try clear p11
 try clear q11
 try clear hx11
 try clear qi11
 try clear c12
 try clear c12b0
 try clear c12b0z
 try clear p13
 try clear q13
 try clear hx13
 try clear qi13
 try clear hcz4_0
 try clear hcz4_1
 try clear hcz4_2
 try clear hcz4_3
 try clear hfz4_0
 try clear hfz4_1
 try clear hfz4_2
 try clear hfz4_3
 try clear p11
 try clear p13
 try clear p8
 try clear q11
 try clear q13
 try clear q8
 obtain ⟨kq, x20_4, rfl, HA, HJ4, BK283, HB⟩ := hcut
 rcases kq with _ | kj4
 ·exact absurd HA.out (by simp [shelfmarkref04_Parse.j0])
 have H := HA.out
 clear HA
 simp only [shelfmarkref04_Parse.j0] at H
 by_cases c14 : x20_4 = true
 ·subst c14
  have H1 : (some (0, ([] : List (S105)), (⟨#[]⟩ : ByteArray), 3)) = some (r1, r2, r3, r4) := by rw [if_pos rfl] at H; exact H
  clear H
  have H := H1
  clear H1
  simp only [Option.some.injEq, Prod.mk.injEq] at H
  obtain ⟨rfl, rfl, rfl, rfl⟩ := H
  have hcz15_0 : wc.cell? ⟨gb283, 0, none⟩ = some (.int .i64 0) := (blk_cell BK283.out 0).trans rfl
  have hcz15_1 : wc.cell? ⟨gb283, 1, none⟩ = some (.slice none 0 0) := (blk_cell BK283.out 1).trans rfl
  have hcz15_2 : wc.cell? ⟨gb283, 2, none⟩ = some (.string (⟨#[]⟩ : ByteArray)) := (blk_cell BK283.out 2).trans rfl
  have hcz15_3 : wc.cell? ⟨gb283, 3, none⟩ = some (.int .i64 0) := (blk_cell BK283.out 3).trans rfl
  have hfz15_0 := blk_frozen BK283.out 0
  have hfz15_1 := blk_frozen BK283.out 1
  have hfz15_2 := blk_frozen BK283.out 2
  have hfz15_3 := blk_frozen BK283.out 3
  go_wp2
  refine bodyPost_ret (results_cell_row rfl _ _ gb283 75 #[.int .i64 0, .slice none 0 0, .string (⟨#[]⟩ : ByteArray), .int .i64 3] (0, 0) _ rfl (by (with_reducible repeat (first | refine blk_drewN ?_ _ | refine blk_drew ?_ | refine blk_alloc ?_ _)); refine blk_put (cs := #[.int .i64 0, .slice none 0 0, .string (⟨#[]⟩ : ByteArray), .int .i64 0]) ?_ 3 _ rfl; (with_reducible repeat (first | refine blk_drewN ?_ _ | refine blk_drew ?_ | refine blk_alloc ?_ _)); refine blk_put (cs := #[.int .i64 0, .slice none 0 0, .string (⟨#[]⟩ : ByteArray), .int .i64 0]) ?_ 2 _ rfl; (with_reducible repeat (first | refine blk_drewN ?_ _ | refine blk_drew ?_ | refine blk_alloc ?_ _)); refine blk_put (cs := #[.int .i64 0, .slice none 0 0, .string (⟨#[]⟩ : ByteArray), .int .i64 0]) ?_ 1 _ rfl; (with_reducible repeat (first | refine blk_drewN ?_ _ | refine blk_drew ?_ | refine blk_alloc ?_ _)); refine blk_put (cs := #[.int .i64 0, .slice none 0 0, .string (⟨#[]⟩ : ByteArray), .int .i64 0]) ?_ 0 _ rfl; exact bL BK283.out) Try.underlying75 rfl (by kernel_rfl)) rfl ?_
  exact ⟨_, by first | rfl | (simp [errW_none, errW_some] <;> rfl) | (simp [*, errW_none, errW_some] <;> rfl), by first | exact Kd.R_nil _ _ _ _ _ | exact Kd.N_nil _ _ _ _ _ | exact Kd.V_nil _ _ _ _ _ | exact Kd.Q_nil _ _ _ _ _ | exact Kd.S_nil _ _ _ _ _, hL HB.out⟩
 replace c14 := Bool.eq_false_iff.mpr c14
 subst c14
 have H1 : (if 2 ≤ (a0.size : Int) then ((shelfmarkref03_Cut.f kj4 (a0.extract 2 a0.size)).bind fun bt284 => (if bt284.2.2 = 0 then (if (bt284.1.length : Int) < 1 then (some (0, ([] : List (S105)), (⟨#[]⟩ : ByteArray), 3)) else (if (bt284.1.length : Int) > 2 then (some (0, ([] : List (S105)), (⟨#[]⟩ : ByteArray), 3)) else ((shelfmarkref04_full.f kj4 bt284.1).bind fun t290 => (if t290 = true then (if bt284.2.1.toList = ([] : List UInt8) then (some (0, ([] : List (S105)), (⟨#[]⟩ : ByteArray), 3)) else (if 1 ≤ (bt284.2.1.size : Int) then ((shelfmarkref04_Key.f (bt284.2.1.extract 1 bt284.2.1.size)).bind fun t291 => (if t291 = true then (if 1 < (a0.size : Int) then (some (wrap64 (bt a0 1), bt284.1, bt284.2.1.extract 1 bt284.2.1.size, 0)) else (none)) else (some (0, ([] : List (S105)), (⟨#[]⟩ : ByteArray), 3)))) else (none))) else (some (0, ([] : List (S105)), (⟨#[]⟩ : ByteArray), 3)))))) else (some (0, ([] : List (S105)), (⟨#[]⟩ : ByteArray), bt284.2.2)))) else (none)) = some (r1, r2, r3, r4) := by rw [if_neg (show ¬ (false = true) by decide)] at H; exact H
 clear H
 have H := H1
 clear H1
 by_cases c16 : 2 ≤ (a0.size : Int)
 rotate_left
 ·rw [if_neg c16] at H
  exact absurd H (by simp)
 rw [if_pos c16] at H
 have c16b0 := eq_true c16
 have c16b1 : decide (2 ≤ (a0.size : Int)) = true := decide_eq_true c16
 clear c16
 replace H := Option.bind_eq_some_iff.mp H
 obtain ⟨⟨t284, t287, t288⟩, A170, H⟩ := H
 replace H : (if t288 = 0 then (if (t284.length : Int) < 1 then (some (0, ([] : List (S105)), (⟨#[]⟩ : ByteArray), 3)) else (if (t284.length : Int) > 2 then (some (0, ([] : List (S105)), (⟨#[]⟩ : ByteArray), 3)) else ((shelfmarkref04_full.f kj4 t284).bind fun t290 => (if t290 = true then (if t287.toList = ([] : List UInt8) then (some (0, ([] : List (S105)), (⟨#[]⟩ : ByteArray), 3)) else (if 1 ≤ (t287.size : Int) then ((shelfmarkref04_Key.f (t287.extract 1 t287.size)).bind fun t291 => (if t291 = true then (if 1 < (a0.size : Int) then (some (wrap64 (bt a0 1), t284, t287.extract 1 t287.size, 0)) else (none)) else (some (0, ([] : List (S105)), (⟨#[]⟩ : ByteArray), 3)))) else (none))) else (some (0, ([] : List (S105)), (⟨#[]⟩ : ByteArray), 3)))))) else (some (0, ([] : List (S105)), (⟨#[]⟩ : ByteArray), t288))) = some (r1, r2, r3, r4) := H
 have A17 := Aside0.mk A170
 clear A170
 by_cases c18 : t288 = 0
 rotate_left
 ·rw [if_neg c18] at H
  have c18b0 : (t288 == 0) = false := beq_eq_false_iff_ne.mpr c18
  have c18b1 : (t288 != 0) = true := bne_iff_ne.mpr c18
  simp only [Option.some.injEq, Prod.mk.injEq] at H
  obtain ⟨rfl, rfl, rfl, rfl⟩ := H
  go_wp2_with (first | ((with_reducible refine gate_callee (f := 61) rfl ?_); refine goesL_ (some 24) rfl rfl Try.func61 (by kernel_rfl) rfl #[.string (a0.extract 2 a0.size)] rfl (by (try simp only [List.map_toArray, List.map_cons, List.map_nil]); first | done | rfl | (simp only [List.length_drop, List.length_take]; rfl)) ?_; (with_reducible refine (shelfmarkref03_Cut.calls kj4 (a0.extract 2 a0.size) t284 t287 t288 _ A17.out).mono ?_); rintro e w71 ⟨v285, rfl, ho0, hb⟩; refine ⟨_, rfl, ?_⟩; have n0_ := Aside0.mk (Kd.R_lower ho0 (below_size (hL HB.out))); have n1_ := Aside0.mk (blk_below (bL BK283.out) hb); have n2_ := Aside0.mk (below_step (hL HB.out) hb); clear BK283; clear HB; have HO286 := n0_; have BK283 := n1_; have HB := n2_; clear n0_ n1_ n2_; (try clear hb); (try clear hb2); (try clear hk); (try clear hi); (try clear ho0)) | ((with_reducible refine gate_dst (N := 3) rfl ?_); (try (refine gate_guard (by rfl) ?_; dsimp only)); refine box_event ?hg (N := 3) ?hd (cs := #[.slice none 0 0, .string (⟨#[]⟩ : ByteArray), .int .i64 0]) (t := 95) ?hr ?_; (case hd => rfl); (case hg => rfl); (case hr => first | (go_simp; done) | (go_simp; rfl)); intro gb289 hg w72 hbox hb; have n0_ := Aside0.mk (Kd.R_below (rL HO286.out) hb); have n1_ := Aside0.mk (blk_below (bL BK283.out) hb); have n2_ := Aside0.mk (below_step (hL HB.out) hb); have n3_ := Aside0.mk (hbox); have n4_ := Above.mk ((by rw [hg]; exact (below_size (hL HB.out)) : w.heap.size ≤ gb289)); have n5_ := Above.mk ((by rw [hg]; exact (below_size (hL HB.out)) : w.heap.size ≤ gb289)); have n6_ := Aside0.mk ((by rw [hg]; exact Nat.ne_of_lt (blk_lt (g := gb283) (o := .cells #[.int .i64 0, .slice none 0 0, .string (⟨#[]⟩ : ByteArray), .int .i64 0] 75 (0, 0)) (bL BK283.out)) : gb283 ≠ gb289)); have n7_ := Aside0.mk ((by rw [hg]; exact Nat.ne_of_gt (blk_lt (g := gb283) (o := .cells #[.int .i64 0, .slice none 0 0, .string (⟨#[]⟩ : ByteArray), .int .i64 0] 75 (0, 0)) (bL BK283.out)) : gb289 ≠ gb283)); clear HO286; clear BK283; clear HB; have HO286 := n0_; have BK283 := n1_; have HB := n2_; have BK289 := n3_; have GW289 := n4_; have GE289 := n5_; have NB283_289 := n6_; have NB289_283 := n7_; clear n0_ n1_ n2_ n3_ n4_ n5_ n6_ n7_; clear hb hbox hg; obtain ⟨Ao73, co73, eo73⟩ := Kd.R_slice HO286.out; subst eo73; have hnb74 := NB289_283.out; have hnc74 := NB283_289.out; have hcz75_0 : w72.cell? ⟨gb289, 0, none⟩ = some (.slice none 0 0) := (blk_cell BK289.out 0).trans rfl; have hcz75_1 : w72.cell? ⟨gb289, 1, none⟩ = some (.string (⟨#[]⟩ : ByteArray)) := (blk_cell BK289.out 1).trans rfl; have hcz75_2 : w72.cell? ⟨gb289, 2, none⟩ = some (.int .i64 0) := (blk_cell BK289.out 2).trans rfl; have hfz75_0 := blk_frozen BK289.out 0; have hfz75_1 := blk_frozen BK289.out 1; have hfz75_2 := blk_frozen BK289.out 2; have hcz76_0 : w72.cell? ⟨gb283, 0, none⟩ = some (.int .i64 0) := (blk_cell BK283.out 0).trans rfl; have hcz76_1 : w72.cell? ⟨gb283, 1, none⟩ = some (.slice none 0 0) := (blk_cell BK283.out 1).trans rfl; have hcz76_2 : w72.cell? ⟨gb283, 2, none⟩ = some (.string (⟨#[]⟩ : ByteArray)) := (blk_cell BK283.out 2).trans rfl; have hcz76_3 : w72.cell? ⟨gb283, 3, none⟩ = some (.int .i64 0) := (blk_cell BK283.out 3).trans rfl; have hfz76_0 := blk_frozen BK283.out 0; have hfz76_1 := blk_frozen BK283.out 1; have hfz76_2 := blk_frozen BK283.out 2; have hfz76_3 := blk_frozen BK283.out 3))
  refine bodyPost_ret (results_cell_row rfl _ _ gb283 75 #[.int .i64 0, .slice none 0 0, .string (⟨#[]⟩ : ByteArray), .int .i64 t288] (0, 0) _ rfl (by (with_reducible repeat (first | refine blk_drewN ?_ _ | refine blk_drew ?_ | refine blk_alloc ?_ _)); refine blk_put (cs := #[.int .i64 0, .slice none 0 0, .string (⟨#[]⟩ : ByteArray), .int .i64 0]) ?_ 3 _ rfl; (with_reducible repeat (first | refine blk_drewN ?_ _ | refine blk_drew ?_ | refine blk_alloc ?_ _)); refine blk_put (cs := #[.int .i64 0, .slice none 0 0, .string (⟨#[]⟩ : ByteArray), .int .i64 0]) ?_ 2 _ rfl; (with_reducible repeat (first | refine blk_drewN ?_ _ | refine blk_drew ?_ | refine blk_alloc ?_ _)); refine blk_put (cs := #[.int .i64 0, .slice none 0 0, .string (⟨#[]⟩ : ByteArray), .int .i64 0]) ?_ 1 _ rfl; (with_reducible repeat (first | refine blk_drewN ?_ _ | refine blk_drew ?_ | refine blk_alloc ?_ _)); refine blk_put (cs := #[.int .i64 0, .slice none 0 0, .string (⟨#[]⟩ : ByteArray), .int .i64 0]) ?_ 0 _ rfl; (with_reducible repeat (first | refine blk_drewN ?_ _ | refine blk_drew ?_ | refine blk_alloc ?_ _)); refine blk_far ?_ NB283_289.out _; (with_reducible repeat (first | refine blk_drewN ?_ _ | refine blk_drew ?_ | refine blk_alloc ?_ _)); refine blk_far ?_ NB283_289.out _; (with_reducible repeat (first | refine blk_drewN ?_ _ | refine blk_drew ?_ | refine blk_alloc ?_ _)); refine blk_far ?_ NB283_289.out _; exact bL BK283.out) Try.underlying75 rfl (by kernel_rfl)) rfl ?_
  exact ⟨_, by first | rfl | (simp [errW_none, errW_some] <;> rfl) | (simp [*, errW_none, errW_some] <;> rfl), by first | exact Kd.R_nil _ _ _ _ _ | exact Kd.N_nil _ _ _ _ _ | exact Kd.V_nil _ _ _ _ _ | exact Kd.Q_nil _ _ _ _ _ | exact Kd.S_nil _ _ _ _ _, hL HB.out⟩
 rw [if_pos c18] at H
 have c18b0 : (t288 == 0) = true := beq_iff_eq.mpr c18
 have c18b1 : (t288 != 0) = false := bne_eq_false_iff_eq.mpr c18
 clear c18
 by_cases c19 : (t284.length : Int) < 1
 ·rw [if_pos c19] at H
  have c19b0 : decide ((t284.length : Int) < 1) = true := decide_eq_true c19
  have c19b1 : decide (t284.length < 1) = true := decide_eq_true (by omega)
  clear c19
  simp only [Option.some.injEq, Prod.mk.injEq] at H
  obtain ⟨rfl, rfl, rfl, rfl⟩ := H
  go_wp2_with (first | ((with_reducible refine gate_callee (f := 61) rfl ?_); refine goesL_ (some 24) rfl rfl Try.func61 (by kernel_rfl) rfl #[.string (a0.extract 2 a0.size)] rfl (by (try simp only [List.map_toArray, List.map_cons, List.map_nil]); first | done | rfl | (simp only [List.length_drop, List.length_take]; rfl)) ?_; (with_reducible refine (shelfmarkref03_Cut.calls kj4 (a0.extract 2 a0.size) t284 t287 t288 _ A17.out).mono ?_); rintro e w20 ⟨v285, rfl, ho0, hb⟩; refine ⟨_, rfl, ?_⟩; have n0_ := Aside0.mk (Kd.R_lower ho0 (below_size (hL HB.out))); have n1_ := Aside0.mk (blk_below (bL BK283.out) hb); have n2_ := Aside0.mk (below_step (hL HB.out) hb); clear BK283; clear HB; have HO286 := n0_; have BK283 := n1_; have HB := n2_; clear n0_ n1_ n2_; (try clear hb); (try clear hb2); (try clear hk); (try clear hi); (try clear ho0)) | ((with_reducible refine gate_dst (N := 3) rfl ?_); (try (refine gate_guard (by rfl) ?_; dsimp only)); refine box_event ?hg (N := 3) ?hd (cs := #[.slice none 0 0, .string (⟨#[]⟩ : ByteArray), .int .i64 0]) (t := 95) ?hr ?_; (case hd => rfl); (case hg => rfl); (case hr => first | (go_simp; done) | (go_simp; rfl)); intro gb289 hg w21 hbox hb; have n0_ := Aside0.mk (Kd.R_below (rL HO286.out) hb); have n1_ := Aside0.mk (blk_below (bL BK283.out) hb); have n2_ := Aside0.mk (below_step (hL HB.out) hb); have n3_ := Aside0.mk (hbox); have n4_ := Above.mk ((by rw [hg]; exact (below_size (hL HB.out)) : w.heap.size ≤ gb289)); have n5_ := Above.mk ((by rw [hg]; exact (below_size (hL HB.out)) : w.heap.size ≤ gb289)); have n6_ := Aside0.mk ((by rw [hg]; exact Nat.ne_of_lt (blk_lt (g := gb283) (o := .cells #[.int .i64 0, .slice none 0 0, .string (⟨#[]⟩ : ByteArray), .int .i64 0] 75 (0, 0)) (bL BK283.out)) : gb283 ≠ gb289)); have n7_ := Aside0.mk ((by rw [hg]; exact Nat.ne_of_gt (blk_lt (g := gb283) (o := .cells #[.int .i64 0, .slice none 0 0, .string (⟨#[]⟩ : ByteArray), .int .i64 0] 75 (0, 0)) (bL BK283.out)) : gb289 ≠ gb283)); clear HO286; clear BK283; clear HB; have HO286 := n0_; have BK283 := n1_; have HB := n2_; have BK289 := n3_; have GW289 := n4_; have GE289 := n5_; have NB283_289 := n6_; have NB289_283 := n7_; clear n0_ n1_ n2_ n3_ n4_ n5_ n6_ n7_; clear hb hbox hg; obtain ⟨Ao22, co22, eo22⟩ := Kd.R_slice HO286.out; subst eo22; have hnb23 := NB289_283.out; have hnc23 := NB283_289.out; have hcz24_0 : w21.cell? ⟨gb289, 0, none⟩ = some (.slice none 0 0) := (blk_cell BK289.out 0).trans rfl; have hcz24_1 : w21.cell? ⟨gb289, 1, none⟩ = some (.string (⟨#[]⟩ : ByteArray)) := (blk_cell BK289.out 1).trans rfl; have hcz24_2 : w21.cell? ⟨gb289, 2, none⟩ = some (.int .i64 0) := (blk_cell BK289.out 2).trans rfl; have hfz24_0 := blk_frozen BK289.out 0; have hfz24_1 := blk_frozen BK289.out 1; have hfz24_2 := blk_frozen BK289.out 2; have hcz25_0 : w21.cell? ⟨gb283, 0, none⟩ = some (.int .i64 0) := (blk_cell BK283.out 0).trans rfl; have hcz25_1 : w21.cell? ⟨gb283, 1, none⟩ = some (.slice none 0 0) := (blk_cell BK283.out 1).trans rfl; have hcz25_2 : w21.cell? ⟨gb283, 2, none⟩ = some (.string (⟨#[]⟩ : ByteArray)) := (blk_cell BK283.out 2).trans rfl; have hcz25_3 : w21.cell? ⟨gb283, 3, none⟩ = some (.int .i64 0) := (blk_cell BK283.out 3).trans rfl; have hfz25_0 := blk_frozen BK283.out 0; have hfz25_1 := blk_frozen BK283.out 1; have hfz25_2 := blk_frozen BK283.out 2; have hfz25_3 := blk_frozen BK283.out 3))
  refine bodyPost_ret (results_cell_row rfl _ _ gb283 75 #[.int .i64 0, .slice none 0 0, .string (⟨#[]⟩ : ByteArray), .int .i64 3] (0, 0) _ rfl (by (with_reducible repeat (first | refine blk_drewN ?_ _ | refine blk_drew ?_ | refine blk_alloc ?_ _)); refine blk_put (cs := #[.int .i64 0, .slice none 0 0, .string (⟨#[]⟩ : ByteArray), .int .i64 0]) ?_ 3 _ rfl; (with_reducible repeat (first | refine blk_drewN ?_ _ | refine blk_drew ?_ | refine blk_alloc ?_ _)); refine blk_put (cs := #[.int .i64 0, .slice none 0 0, .string (⟨#[]⟩ : ByteArray), .int .i64 0]) ?_ 2 _ rfl; (with_reducible repeat (first | refine blk_drewN ?_ _ | refine blk_drew ?_ | refine blk_alloc ?_ _)); refine blk_put (cs := #[.int .i64 0, .slice none 0 0, .string (⟨#[]⟩ : ByteArray), .int .i64 0]) ?_ 1 _ rfl; (with_reducible repeat (first | refine blk_drewN ?_ _ | refine blk_drew ?_ | refine blk_alloc ?_ _)); refine blk_put (cs := #[.int .i64 0, .slice none 0 0, .string (⟨#[]⟩ : ByteArray), .int .i64 0]) ?_ 0 _ rfl; (with_reducible repeat (first | refine blk_drewN ?_ _ | refine blk_drew ?_ | refine blk_alloc ?_ _)); refine blk_far ?_ NB283_289.out _; (with_reducible repeat (first | refine blk_drewN ?_ _ | refine blk_drew ?_ | refine blk_alloc ?_ _)); refine blk_far ?_ NB283_289.out _; (with_reducible repeat (first | refine blk_drewN ?_ _ | refine blk_drew ?_ | refine blk_alloc ?_ _)); refine blk_far ?_ NB283_289.out _; exact bL BK283.out) Try.underlying75 rfl (by kernel_rfl)) rfl ?_
  exact ⟨_, by first | rfl | (simp [errW_none, errW_some] <;> rfl) | (simp [*, errW_none, errW_some] <;> rfl), by first | exact Kd.R_nil _ _ _ _ _ | exact Kd.N_nil _ _ _ _ _ | exact Kd.V_nil _ _ _ _ _ | exact Kd.Q_nil _ _ _ _ _ | exact Kd.S_nil _ _ _ _ _, hL HB.out⟩
 rw [if_neg c19] at H
 have c19b0 : decide ((t284.length : Int) < 1) = false := decide_eq_false c19
 have c19b1 : decide (t284.length < 1) = false := decide_eq_false (by omega)
 clear c19
 by_cases c26 : (t284.length : Int) > 2
 ·rw [if_pos c26] at H
  have c26b0 : decide (2 < (t284.length : Int)) = true := decide_eq_true c26
  have c26b1 : decide (2 < t284.length) = true := decide_eq_true (by omega)
  clear c26
  simp only [Option.some.injEq, Prod.mk.injEq] at H
  obtain ⟨rfl, rfl, rfl, rfl⟩ := H
  go_wp2_with (first | ((with_reducible refine gate_callee (f := 61) rfl ?_); refine goesL_ (some 24) rfl rfl Try.func61 (by kernel_rfl) rfl #[.string (a0.extract 2 a0.size)] rfl (by (try simp only [List.map_toArray, List.map_cons, List.map_nil]); first | done | rfl | (simp only [List.length_drop, List.length_take]; rfl)) ?_; (with_reducible refine (shelfmarkref03_Cut.calls kj4 (a0.extract 2 a0.size) t284 t287 t288 _ A17.out).mono ?_); rintro e w27 ⟨v285, rfl, ho0, hb⟩; refine ⟨_, rfl, ?_⟩; have n0_ := Aside0.mk (Kd.R_lower ho0 (below_size (hL HB.out))); have n1_ := Aside0.mk (blk_below (bL BK283.out) hb); have n2_ := Aside0.mk (below_step (hL HB.out) hb); clear BK283; clear HB; have HO286 := n0_; have BK283 := n1_; have HB := n2_; clear n0_ n1_ n2_; (try clear hb); (try clear hb2); (try clear hk); (try clear hi); (try clear ho0)) | ((with_reducible refine gate_dst (N := 3) rfl ?_); (try (refine gate_guard (by rfl) ?_; dsimp only)); refine box_event ?hg (N := 3) ?hd (cs := #[.slice none 0 0, .string (⟨#[]⟩ : ByteArray), .int .i64 0]) (t := 95) ?hr ?_; (case hd => rfl); (case hg => rfl); (case hr => first | (go_simp; done) | (go_simp; rfl)); intro gb289 hg w28 hbox hb; have n0_ := Aside0.mk (Kd.R_below (rL HO286.out) hb); have n1_ := Aside0.mk (blk_below (bL BK283.out) hb); have n2_ := Aside0.mk (below_step (hL HB.out) hb); have n3_ := Aside0.mk (hbox); have n4_ := Above.mk ((by rw [hg]; exact (below_size (hL HB.out)) : w.heap.size ≤ gb289)); have n5_ := Above.mk ((by rw [hg]; exact (below_size (hL HB.out)) : w.heap.size ≤ gb289)); have n6_ := Aside0.mk ((by rw [hg]; exact Nat.ne_of_lt (blk_lt (g := gb283) (o := .cells #[.int .i64 0, .slice none 0 0, .string (⟨#[]⟩ : ByteArray), .int .i64 0] 75 (0, 0)) (bL BK283.out)) : gb283 ≠ gb289)); have n7_ := Aside0.mk ((by rw [hg]; exact Nat.ne_of_gt (blk_lt (g := gb283) (o := .cells #[.int .i64 0, .slice none 0 0, .string (⟨#[]⟩ : ByteArray), .int .i64 0] 75 (0, 0)) (bL BK283.out)) : gb289 ≠ gb283)); clear HO286; clear BK283; clear HB; have HO286 := n0_; have BK283 := n1_; have HB := n2_; have BK289 := n3_; have GW289 := n4_; have GE289 := n5_; have NB283_289 := n6_; have NB289_283 := n7_; clear n0_ n1_ n2_ n3_ n4_ n5_ n6_ n7_; clear hb hbox hg; obtain ⟨Ao29, co29, eo29⟩ := Kd.R_slice HO286.out; subst eo29; have hnb30 := NB289_283.out; have hnc30 := NB283_289.out; have hcz31_0 : w28.cell? ⟨gb289, 0, none⟩ = some (.slice none 0 0) := (blk_cell BK289.out 0).trans rfl; have hcz31_1 : w28.cell? ⟨gb289, 1, none⟩ = some (.string (⟨#[]⟩ : ByteArray)) := (blk_cell BK289.out 1).trans rfl; have hcz31_2 : w28.cell? ⟨gb289, 2, none⟩ = some (.int .i64 0) := (blk_cell BK289.out 2).trans rfl; have hfz31_0 := blk_frozen BK289.out 0; have hfz31_1 := blk_frozen BK289.out 1; have hfz31_2 := blk_frozen BK289.out 2; have hcz32_0 : w28.cell? ⟨gb283, 0, none⟩ = some (.int .i64 0) := (blk_cell BK283.out 0).trans rfl; have hcz32_1 : w28.cell? ⟨gb283, 1, none⟩ = some (.slice none 0 0) := (blk_cell BK283.out 1).trans rfl; have hcz32_2 : w28.cell? ⟨gb283, 2, none⟩ = some (.string (⟨#[]⟩ : ByteArray)) := (blk_cell BK283.out 2).trans rfl; have hcz32_3 : w28.cell? ⟨gb283, 3, none⟩ = some (.int .i64 0) := (blk_cell BK283.out 3).trans rfl; have hfz32_0 := blk_frozen BK283.out 0; have hfz32_1 := blk_frozen BK283.out 1; have hfz32_2 := blk_frozen BK283.out 2; have hfz32_3 := blk_frozen BK283.out 3))
  refine bodyPost_ret (results_cell_row rfl _ _ gb283 75 #[.int .i64 0, .slice none 0 0, .string (⟨#[]⟩ : ByteArray), .int .i64 3] (0, 0) _ rfl (by (with_reducible repeat (first | refine blk_drewN ?_ _ | refine blk_drew ?_ | refine blk_alloc ?_ _)); refine blk_put (cs := #[.int .i64 0, .slice none 0 0, .string (⟨#[]⟩ : ByteArray), .int .i64 0]) ?_ 3 _ rfl; (with_reducible repeat (first | refine blk_drewN ?_ _ | refine blk_drew ?_ | refine blk_alloc ?_ _)); refine blk_put (cs := #[.int .i64 0, .slice none 0 0, .string (⟨#[]⟩ : ByteArray), .int .i64 0]) ?_ 2 _ rfl; (with_reducible repeat (first | refine blk_drewN ?_ _ | refine blk_drew ?_ | refine blk_alloc ?_ _)); refine blk_put (cs := #[.int .i64 0, .slice none 0 0, .string (⟨#[]⟩ : ByteArray), .int .i64 0]) ?_ 1 _ rfl; (with_reducible repeat (first | refine blk_drewN ?_ _ | refine blk_drew ?_ | refine blk_alloc ?_ _)); refine blk_put (cs := #[.int .i64 0, .slice none 0 0, .string (⟨#[]⟩ : ByteArray), .int .i64 0]) ?_ 0 _ rfl; (with_reducible repeat (first | refine blk_drewN ?_ _ | refine blk_drew ?_ | refine blk_alloc ?_ _)); refine blk_far ?_ NB283_289.out _; (with_reducible repeat (first | refine blk_drewN ?_ _ | refine blk_drew ?_ | refine blk_alloc ?_ _)); refine blk_far ?_ NB283_289.out _; (with_reducible repeat (first | refine blk_drewN ?_ _ | refine blk_drew ?_ | refine blk_alloc ?_ _)); refine blk_far ?_ NB283_289.out _; exact bL BK283.out) Try.underlying75 rfl (by kernel_rfl)) rfl ?_
  exact ⟨_, by first | rfl | (simp [errW_none, errW_some] <;> rfl) | (simp [*, errW_none, errW_some] <;> rfl), by first | exact Kd.R_nil _ _ _ _ _ | exact Kd.N_nil _ _ _ _ _ | exact Kd.V_nil _ _ _ _ _ | exact Kd.Q_nil _ _ _ _ _ | exact Kd.S_nil _ _ _ _ _, hL HB.out⟩
 rw [if_neg c26] at H
 have c26b0 : decide (2 < (t284.length : Int)) = false := decide_eq_false c26
 have c26b1 : decide (2 < t284.length) = false := decide_eq_false (by omega)
 clear c26
 replace H := Option.bind_eq_some_iff.mp H
 obtain ⟨t290, A330, H⟩ := H
 replace H : (if t290 = true then (if t287.toList = ([] : List UInt8) then (some (0, ([] : List (S105)), (⟨#[]⟩ : ByteArray), 3)) else (if 1 ≤ (t287.size : Int) then ((shelfmarkref04_Key.f (t287.extract 1 t287.size)).bind fun t291 => (if t291 = true then (if 1 < (a0.size : Int) then (some (wrap64 (bt a0 1), t284, t287.extract 1 t287.size, 0)) else (none)) else (some (0, ([] : List (S105)), (⟨#[]⟩ : ByteArray), 3)))) else (none))) else (some (0, ([] : List (S105)), (⟨#[]⟩ : ByteArray), 3))) = some (r1, r2, r3, r4) := H
 have A33 := Aside0.mk A330
 clear A330
 by_cases c34 : t290 = true
 rotate_left
 ·replace c34 := Bool.eq_false_iff.mpr c34
  subst c34
  have H1 : (some (0, ([] : List (S105)), (⟨#[]⟩ : ByteArray), 3)) = some (r1, r2, r3, r4) := by rw [if_neg (show ¬ (false = true) by decide)] at H; exact H
  clear H
  have H := H1
  clear H1
  simp only [Option.some.injEq, Prod.mk.injEq] at H
  obtain ⟨rfl, rfl, rfl, rfl⟩ := H
  go_wp2_with (first | ((with_reducible refine gate_callee (f := 61) rfl ?_); refine goesL_ (some 24) rfl rfl Try.func61 (by kernel_rfl) rfl #[.string (a0.extract 2 a0.size)] rfl (by (try simp only [List.map_toArray, List.map_cons, List.map_nil]); first | done | rfl | (simp only [List.length_drop, List.length_take]; rfl)) ?_; (with_reducible refine (shelfmarkref03_Cut.calls kj4 (a0.extract 2 a0.size) t284 t287 t288 _ A17.out).mono ?_); rintro e w65 ⟨v285, rfl, ho0, hb⟩; refine ⟨_, rfl, ?_⟩; have n0_ := Aside0.mk (Kd.R_lower ho0 (below_size (hL HB.out))); have n1_ := Aside0.mk (blk_below (bL BK283.out) hb); have n2_ := Aside0.mk (below_step (hL HB.out) hb); clear BK283; clear HB; have HO286 := n0_; have BK283 := n1_; have HB := n2_; clear n0_ n1_ n2_; (try clear hb); (try clear hb2); (try clear hk); (try clear hi); (try clear ho0)) | ((with_reducible refine gate_dst (N := 3) rfl ?_); (try (refine gate_guard (by rfl) ?_; dsimp only)); refine box_event ?hg (N := 3) ?hd (cs := #[.slice none 0 0, .string (⟨#[]⟩ : ByteArray), .int .i64 0]) (t := 95) ?hr ?_; (case hd => rfl); (case hg => rfl); (case hr => first | (go_simp; done) | (go_simp; rfl)); intro gb289 hg w66 hbox hb; have n0_ := Aside0.mk (Kd.R_below (rL HO286.out) hb); have n1_ := Aside0.mk (blk_below (bL BK283.out) hb); have n2_ := Aside0.mk (below_step (hL HB.out) hb); have n3_ := Aside0.mk (hbox); have n4_ := Above.mk ((by rw [hg]; exact (below_size (hL HB.out)) : w.heap.size ≤ gb289)); have n5_ := Above.mk ((by rw [hg]; exact (below_size (hL HB.out)) : w.heap.size ≤ gb289)); have n6_ := Aside0.mk ((by rw [hg]; exact Nat.ne_of_lt (blk_lt (g := gb283) (o := .cells #[.int .i64 0, .slice none 0 0, .string (⟨#[]⟩ : ByteArray), .int .i64 0] 75 (0, 0)) (bL BK283.out)) : gb283 ≠ gb289)); have n7_ := Aside0.mk ((by rw [hg]; exact Nat.ne_of_gt (blk_lt (g := gb283) (o := .cells #[.int .i64 0, .slice none 0 0, .string (⟨#[]⟩ : ByteArray), .int .i64 0] 75 (0, 0)) (bL BK283.out)) : gb289 ≠ gb283)); clear HO286; clear BK283; clear HB; have HO286 := n0_; have BK283 := n1_; have HB := n2_; have BK289 := n3_; have GW289 := n4_; have GE289 := n5_; have NB283_289 := n6_; have NB289_283 := n7_; clear n0_ n1_ n2_ n3_ n4_ n5_ n6_ n7_; clear hb hbox hg; obtain ⟨Ao67, co67, eo67⟩ := Kd.R_slice HO286.out; subst eo67; have hnb68 := NB289_283.out; have hnc68 := NB283_289.out; have hcz69_0 : w66.cell? ⟨gb289, 0, none⟩ = some (.slice none 0 0) := (blk_cell BK289.out 0).trans rfl; have hcz69_1 : w66.cell? ⟨gb289, 1, none⟩ = some (.string (⟨#[]⟩ : ByteArray)) := (blk_cell BK289.out 1).trans rfl; have hcz69_2 : w66.cell? ⟨gb289, 2, none⟩ = some (.int .i64 0) := (blk_cell BK289.out 2).trans rfl; have hfz69_0 := blk_frozen BK289.out 0; have hfz69_1 := blk_frozen BK289.out 1; have hfz69_2 := blk_frozen BK289.out 2) | (go_at_call 62; (with_reducible refine (shelfmarkref04_full.calls kj4 _ _ t284 false _ ?side1 ?side2 A33.out).mono ?_); (case side1 => refine (Kd.R_reads' (e := 105) (base := w.heap.size) (ok := fun k_ => True) (n := t284.length) (c := co67) ?_).2.2; exact (by (with_reducible repeat (first | apply Kd.R_alloc | apply Kd.R_drewN | apply Kd.R_drew)); exact (Kd.R_mono (Kd.R_far (p := ⟨gb289, 2, none⟩) (Kd.R_far (p := ⟨gb289, 1, none⟩) (Kd.R_far (p := ⟨gb289, 0, none⟩) (Kd.R_types HO286.out BK289.out (by decide)) (fun _ hk => hk.2) (.slice Ao67 t284.length co67)) (fun _ hk => hk.2) (.string t287)) (fun _ hk => hk.2) (.int .i64 t288)) (fun _ h_ => h_.1)))); (case side2 => exact (Kd.R_reads' HO286.out).2.1); rintro e w' ⟨rfl, ⟨nd, rfl⟩⟩; have hcz70_0 : w66.cell? ⟨gb283, 0, none⟩ = some (.int .i64 0) := (blk_cell BK283.out 0).trans rfl; have hcz70_1 : w66.cell? ⟨gb283, 1, none⟩ = some (.slice none 0 0) := (blk_cell BK283.out 1).trans rfl; have hcz70_2 : w66.cell? ⟨gb283, 2, none⟩ = some (.string (⟨#[]⟩ : ByteArray)) := (blk_cell BK283.out 2).trans rfl; have hcz70_3 : w66.cell? ⟨gb283, 3, none⟩ = some (.int .i64 0) := (blk_cell BK283.out 3).trans rfl; have hfz70_0 := blk_frozen BK283.out 0; have hfz70_1 := blk_frozen BK283.out 1; have hfz70_2 := blk_frozen BK283.out 2; have hfz70_3 := blk_frozen BK283.out 3))
  refine bodyPost_ret (results_cell_row rfl _ _ gb283 75 #[.int .i64 0, .slice none 0 0, .string (⟨#[]⟩ : ByteArray), .int .i64 3] (0, 0) _ rfl (by (with_reducible repeat (first | refine blk_drewN ?_ _ | refine blk_drew ?_ | refine blk_alloc ?_ _)); refine blk_put (cs := #[.int .i64 0, .slice none 0 0, .string (⟨#[]⟩ : ByteArray), .int .i64 0]) ?_ 3 _ rfl; (with_reducible repeat (first | refine blk_drewN ?_ _ | refine blk_drew ?_ | refine blk_alloc ?_ _)); refine blk_put (cs := #[.int .i64 0, .slice none 0 0, .string (⟨#[]⟩ : ByteArray), .int .i64 0]) ?_ 2 _ rfl; (with_reducible repeat (first | refine blk_drewN ?_ _ | refine blk_drew ?_ | refine blk_alloc ?_ _)); refine blk_put (cs := #[.int .i64 0, .slice none 0 0, .string (⟨#[]⟩ : ByteArray), .int .i64 0]) ?_ 1 _ rfl; (with_reducible repeat (first | refine blk_drewN ?_ _ | refine blk_drew ?_ | refine blk_alloc ?_ _)); refine blk_put (cs := #[.int .i64 0, .slice none 0 0, .string (⟨#[]⟩ : ByteArray), .int .i64 0]) ?_ 0 _ rfl; (with_reducible repeat (first | refine blk_drewN ?_ _ | refine blk_drew ?_ | refine blk_alloc ?_ _)); refine blk_far ?_ NB283_289.out _; (with_reducible repeat (first | refine blk_drewN ?_ _ | refine blk_drew ?_ | refine blk_alloc ?_ _)); refine blk_far ?_ NB283_289.out _; (with_reducible repeat (first | refine blk_drewN ?_ _ | refine blk_drew ?_ | refine blk_alloc ?_ _)); refine blk_far ?_ NB283_289.out _; exact bL BK283.out) Try.underlying75 rfl (by kernel_rfl)) rfl ?_
  exact ⟨_, by first | rfl | (simp [errW_none, errW_some] <;> rfl) | (simp [*, errW_none, errW_some] <;> rfl), by first | exact Kd.R_nil _ _ _ _ _ | exact Kd.N_nil _ _ _ _ _ | exact Kd.V_nil _ _ _ _ _ | exact Kd.Q_nil _ _ _ _ _ | exact Kd.S_nil _ _ _ _ _, hL HB.out⟩
 subst c34
 have H1 : (if t287.toList = ([] : List UInt8) then (some (0, ([] : List (S105)), (⟨#[]⟩ : ByteArray), 3)) else (if 1 ≤ (t287.size : Int) then ((shelfmarkref04_Key.f (t287.extract 1 t287.size)).bind fun t291 => (if t291 = true then (if 1 < (a0.size : Int) then (some (wrap64 (bt a0 1), t284, t287.extract 1 t287.size, 0)) else (none)) else (some (0, ([] : List (S105)), (⟨#[]⟩ : ByteArray), 3)))) else (none))) = some (r1, r2, r3, r4) := by rw [if_pos rfl] at H; exact H
 clear H
 have H := H1
 clear H1
 by_cases c35 : t287.toList = ([] : List UInt8)
 ·rw [if_pos c35] at H
  have c35b0 : (t287.toList == ([] : List UInt8)) = true := beq_iff_eq.mpr c35
  have c35b1 : (t287.toList != ([] : List UInt8)) = false := bne_eq_false_iff_eq.mpr c35
  clear c35
  simp only [Option.some.injEq, Prod.mk.injEq] at H
  obtain ⟨rfl, rfl, rfl, rfl⟩ := H
  go_wp2_with (first | ((with_reducible refine gate_callee (f := 61) rfl ?_); refine goesL_ (some 24) rfl rfl Try.func61 (by kernel_rfl) rfl #[.string (a0.extract 2 a0.size)] rfl (by (try simp only [List.map_toArray, List.map_cons, List.map_nil]); first | done | rfl | (simp only [List.length_drop, List.length_take]; rfl)) ?_; (with_reducible refine (shelfmarkref03_Cut.calls kj4 (a0.extract 2 a0.size) t284 t287 t288 _ A17.out).mono ?_); rintro e w36 ⟨v285, rfl, ho0, hb⟩; refine ⟨_, rfl, ?_⟩; have n0_ := Aside0.mk (Kd.R_lower ho0 (below_size (hL HB.out))); have n1_ := Aside0.mk (blk_below (bL BK283.out) hb); have n2_ := Aside0.mk (below_step (hL HB.out) hb); clear BK283; clear HB; have HO286 := n0_; have BK283 := n1_; have HB := n2_; clear n0_ n1_ n2_; (try clear hb); (try clear hb2); (try clear hk); (try clear hi); (try clear ho0)) | ((with_reducible refine gate_dst (N := 3) rfl ?_); (try (refine gate_guard (by rfl) ?_; dsimp only)); refine box_event ?hg (N := 3) ?hd (cs := #[.slice none 0 0, .string (⟨#[]⟩ : ByteArray), .int .i64 0]) (t := 95) ?hr ?_; (case hd => rfl); (case hg => rfl); (case hr => first | (go_simp; done) | (go_simp; rfl)); intro gb289 hg w37 hbox hb; have n0_ := Aside0.mk (Kd.R_below (rL HO286.out) hb); have n1_ := Aside0.mk (blk_below (bL BK283.out) hb); have n2_ := Aside0.mk (below_step (hL HB.out) hb); have n3_ := Aside0.mk (hbox); have n4_ := Above.mk ((by rw [hg]; exact (below_size (hL HB.out)) : w.heap.size ≤ gb289)); have n5_ := Above.mk ((by rw [hg]; exact (below_size (hL HB.out)) : w.heap.size ≤ gb289)); have n6_ := Aside0.mk ((by rw [hg]; exact Nat.ne_of_lt (blk_lt (g := gb283) (o := .cells #[.int .i64 0, .slice none 0 0, .string (⟨#[]⟩ : ByteArray), .int .i64 0] 75 (0, 0)) (bL BK283.out)) : gb283 ≠ gb289)); have n7_ := Aside0.mk ((by rw [hg]; exact Nat.ne_of_gt (blk_lt (g := gb283) (o := .cells #[.int .i64 0, .slice none 0 0, .string (⟨#[]⟩ : ByteArray), .int .i64 0] 75 (0, 0)) (bL BK283.out)) : gb289 ≠ gb283)); clear HO286; clear BK283; clear HB; have HO286 := n0_; have BK283 := n1_; have HB := n2_; have BK289 := n3_; have GW289 := n4_; have GE289 := n5_; have NB283_289 := n6_; have NB289_283 := n7_; clear n0_ n1_ n2_ n3_ n4_ n5_ n6_ n7_; clear hb hbox hg; obtain ⟨Ao38, co38, eo38⟩ := Kd.R_slice HO286.out; subst eo38; have hnb39 := NB289_283.out; have hnc39 := NB283_289.out; have hcz40_0 : w37.cell? ⟨gb289, 0, none⟩ = some (.slice none 0 0) := (blk_cell BK289.out 0).trans rfl; have hcz40_1 : w37.cell? ⟨gb289, 1, none⟩ = some (.string (⟨#[]⟩ : ByteArray)) := (blk_cell BK289.out 1).trans rfl; have hcz40_2 : w37.cell? ⟨gb289, 2, none⟩ = some (.int .i64 0) := (blk_cell BK289.out 2).trans rfl; have hfz40_0 := blk_frozen BK289.out 0; have hfz40_1 := blk_frozen BK289.out 1; have hfz40_2 := blk_frozen BK289.out 2) | (go_at_call 62; (with_reducible refine (shelfmarkref04_full.calls kj4 _ _ t284 true _ ?side1 ?side2 A33.out).mono ?_); (case side1 => refine (Kd.R_reads' (e := 105) (base := w.heap.size) (ok := fun k_ => True) (n := t284.length) (c := co38) ?_).2.2; exact (by (with_reducible repeat (first | apply Kd.R_alloc | apply Kd.R_drewN | apply Kd.R_drew)); exact (Kd.R_mono (Kd.R_far (p := ⟨gb289, 2, none⟩) (Kd.R_far (p := ⟨gb289, 1, none⟩) (Kd.R_far (p := ⟨gb289, 0, none⟩) (Kd.R_types HO286.out BK289.out (by decide)) (fun _ hk => hk.2) (.slice Ao38 t284.length co38)) (fun _ hk => hk.2) (.string t287)) (fun _ hk => hk.2) (.int .i64 t288)) (fun _ h_ => h_.1)))); (case side2 => exact (Kd.R_reads' HO286.out).2.1); rintro e w' ⟨rfl, ⟨nd, rfl⟩⟩; have hcz41_0 : w37.cell? ⟨gb283, 0, none⟩ = some (.int .i64 0) := (blk_cell BK283.out 0).trans rfl; have hcz41_1 : w37.cell? ⟨gb283, 1, none⟩ = some (.slice none 0 0) := (blk_cell BK283.out 1).trans rfl; have hcz41_2 : w37.cell? ⟨gb283, 2, none⟩ = some (.string (⟨#[]⟩ : ByteArray)) := (blk_cell BK283.out 2).trans rfl; have hcz41_3 : w37.cell? ⟨gb283, 3, none⟩ = some (.int .i64 0) := (blk_cell BK283.out 3).trans rfl; have hfz41_0 := blk_frozen BK283.out 0; have hfz41_1 := blk_frozen BK283.out 1; have hfz41_2 := blk_frozen BK283.out 2; have hfz41_3 := blk_frozen BK283.out 3))
  refine bodyPost_ret (results_cell_row rfl _ _ gb283 75 #[.int .i64 0, .slice none 0 0, .string (⟨#[]⟩ : ByteArray), .int .i64 3] (0, 0) _ rfl (by (with_reducible repeat (first | refine blk_drewN ?_ _ | refine blk_drew ?_ | refine blk_alloc ?_ _)); refine blk_put (cs := #[.int .i64 0, .slice none 0 0, .string (⟨#[]⟩ : ByteArray), .int .i64 0]) ?_ 3 _ rfl; (with_reducible repeat (first | refine blk_drewN ?_ _ | refine blk_drew ?_ | refine blk_alloc ?_ _)); refine blk_put (cs := #[.int .i64 0, .slice none 0 0, .string (⟨#[]⟩ : ByteArray), .int .i64 0]) ?_ 2 _ rfl; (with_reducible repeat (first | refine blk_drewN ?_ _ | refine blk_drew ?_ | refine blk_alloc ?_ _)); refine blk_put (cs := #[.int .i64 0, .slice none 0 0, .string (⟨#[]⟩ : ByteArray), .int .i64 0]) ?_ 1 _ rfl; (with_reducible repeat (first | refine blk_drewN ?_ _ | refine blk_drew ?_ | refine blk_alloc ?_ _)); refine blk_put (cs := #[.int .i64 0, .slice none 0 0, .string (⟨#[]⟩ : ByteArray), .int .i64 0]) ?_ 0 _ rfl; (with_reducible repeat (first | refine blk_drewN ?_ _ | refine blk_drew ?_ | refine blk_alloc ?_ _)); refine blk_far ?_ NB283_289.out _; (with_reducible repeat (first | refine blk_drewN ?_ _ | refine blk_drew ?_ | refine blk_alloc ?_ _)); refine blk_far ?_ NB283_289.out _; (with_reducible repeat (first | refine blk_drewN ?_ _ | refine blk_drew ?_ | refine blk_alloc ?_ _)); refine blk_far ?_ NB283_289.out _; exact bL BK283.out) Try.underlying75 rfl (by kernel_rfl)) rfl ?_
  exact ⟨_, by first | rfl | (simp [errW_none, errW_some] <;> rfl) | (simp [*, errW_none, errW_some] <;> rfl), by first | exact Kd.R_nil _ _ _ _ _ | exact Kd.N_nil _ _ _ _ _ | exact Kd.V_nil _ _ _ _ _ | exact Kd.Q_nil _ _ _ _ _ | exact Kd.S_nil _ _ _ _ _, hL HB.out⟩
 rw [if_neg c35] at H
 have c35b0 : (t287.toList == ([] : List UInt8)) = false := beq_eq_false_iff_ne.mpr c35
 have c35b1 : (t287.toList != ([] : List UInt8)) = true := bne_iff_ne.mpr c35
 by_cases c42 : 1 ≤ (t287.size : Int)
 rotate_left
 ·rw [if_neg c42] at H
  exact absurd H (by simp)
 rw [if_pos c42] at H
 have c42b0 := eq_true c42
 have c42b1 : decide (1 ≤ (t287.size : Int)) = true := decide_eq_true c42
 clear c42
 replace H := Option.bind_eq_some_iff.mp H
 obtain ⟨t291, A430, H⟩ := H
 replace H : (if t291 = true then (if 1 < (a0.size : Int) then (some (wrap64 (bt a0 1), t284, t287.extract 1 t287.size, 0)) else (none)) else (some (0, ([] : List (S105)), (⟨#[]⟩ : ByteArray), 3))) = some (r1, r2, r3, r4) := H
 have A43 := Aside0.mk A430
 clear A430
 by_cases c44 : t291 = true
 rotate_left
 ·replace c44 := Bool.eq_false_iff.mpr c44
  subst c44
  have H1 : (some (0, ([] : List (S105)), (⟨#[]⟩ : ByteArray), 3)) = some (r1, r2, r3, r4) := by rw [if_neg (show ¬ (false = true) by decide)] at H; exact H
  clear H
  have H := H1
  clear H1
  simp only [Option.some.injEq, Prod.mk.injEq] at H
  obtain ⟨rfl, rfl, rfl, rfl⟩ := H
  go_wp2_with (first | ((with_reducible refine gate_callee (f := 61) rfl ?_); refine goesL_ (some 24) rfl rfl Try.func61 (by kernel_rfl) rfl #[.string (a0.extract 2 a0.size)] rfl (by (try simp only [List.map_toArray, List.map_cons, List.map_nil]); first | done | rfl | (simp only [List.length_drop, List.length_take]; rfl)) ?_; (with_reducible refine (shelfmarkref03_Cut.calls kj4 (a0.extract 2 a0.size) t284 t287 t288 _ A17.out).mono ?_); rintro e w59 ⟨v285, rfl, ho0, hb⟩; refine ⟨_, rfl, ?_⟩; have n0_ := Aside0.mk (Kd.R_lower ho0 (below_size (hL HB.out))); have n1_ := Aside0.mk (blk_below (bL BK283.out) hb); have n2_ := Aside0.mk (below_step (hL HB.out) hb); clear BK283; clear HB; have HO286 := n0_; have BK283 := n1_; have HB := n2_; clear n0_ n1_ n2_; (try clear hb); (try clear hb2); (try clear hk); (try clear hi); (try clear ho0)) | ((with_reducible refine gate_dst (N := 3) rfl ?_); (try (refine gate_guard (by rfl) ?_; dsimp only)); refine box_event ?hg (N := 3) ?hd (cs := #[.slice none 0 0, .string (⟨#[]⟩ : ByteArray), .int .i64 0]) (t := 95) ?hr ?_; (case hd => rfl); (case hg => rfl); (case hr => first | (go_simp; done) | (go_simp; rfl)); intro gb289 hg w60 hbox hb; have n0_ := Aside0.mk (Kd.R_below (rL HO286.out) hb); have n1_ := Aside0.mk (blk_below (bL BK283.out) hb); have n2_ := Aside0.mk (below_step (hL HB.out) hb); have n3_ := Aside0.mk (hbox); have n4_ := Above.mk ((by rw [hg]; exact (below_size (hL HB.out)) : w.heap.size ≤ gb289)); have n5_ := Above.mk ((by rw [hg]; exact (below_size (hL HB.out)) : w.heap.size ≤ gb289)); have n6_ := Aside0.mk ((by rw [hg]; exact Nat.ne_of_lt (blk_lt (g := gb283) (o := .cells #[.int .i64 0, .slice none 0 0, .string (⟨#[]⟩ : ByteArray), .int .i64 0] 75 (0, 0)) (bL BK283.out)) : gb283 ≠ gb289)); have n7_ := Aside0.mk ((by rw [hg]; exact Nat.ne_of_gt (blk_lt (g := gb283) (o := .cells #[.int .i64 0, .slice none 0 0, .string (⟨#[]⟩ : ByteArray), .int .i64 0] 75 (0, 0)) (bL BK283.out)) : gb289 ≠ gb283)); clear HO286; clear BK283; clear HB; have HO286 := n0_; have BK283 := n1_; have HB := n2_; have BK289 := n3_; have GW289 := n4_; have GE289 := n5_; have NB283_289 := n6_; have NB289_283 := n7_; clear n0_ n1_ n2_ n3_ n4_ n5_ n6_ n7_; clear hb hbox hg; obtain ⟨Ao61, co61, eo61⟩ := Kd.R_slice HO286.out; subst eo61; have hnb62 := NB289_283.out; have hnc62 := NB283_289.out; have hcz63_0 : w60.cell? ⟨gb289, 0, none⟩ = some (.slice none 0 0) := (blk_cell BK289.out 0).trans rfl; have hcz63_1 : w60.cell? ⟨gb289, 1, none⟩ = some (.string (⟨#[]⟩ : ByteArray)) := (blk_cell BK289.out 1).trans rfl; have hcz63_2 : w60.cell? ⟨gb289, 2, none⟩ = some (.int .i64 0) := (blk_cell BK289.out 2).trans rfl; have hfz63_0 := blk_frozen BK289.out 0; have hfz63_1 := blk_frozen BK289.out 1; have hfz63_2 := blk_frozen BK289.out 2) | (go_at_call 62; (with_reducible refine (shelfmarkref04_full.calls kj4 _ _ t284 true _ ?side1 ?side2 A33.out).mono ?_); (case side1 => refine (Kd.R_reads' (e := 105) (base := w.heap.size) (ok := fun k_ => True) (n := t284.length) (c := co61) ?_).2.2; exact (by (with_reducible repeat (first | apply Kd.R_alloc | apply Kd.R_drewN | apply Kd.R_drew)); exact (Kd.R_mono (Kd.R_far (p := ⟨gb289, 2, none⟩) (Kd.R_far (p := ⟨gb289, 1, none⟩) (Kd.R_far (p := ⟨gb289, 0, none⟩) (Kd.R_types HO286.out BK289.out (by decide)) (fun _ hk => hk.2) (.slice Ao61 t284.length co61)) (fun _ hk => hk.2) (.string t287)) (fun _ hk => hk.2) (.int .i64 t288)) (fun _ h_ => h_.1)))); (case side2 => exact (Kd.R_reads' HO286.out).2.1); rintro e w' ⟨rfl, ⟨nd, rfl⟩⟩) | (go_at_call 63; (with_reducible refine (shelfmarkref04_Key.calls (t287.extract 1 t287.size) false _ A43.out).mono ?_); rintro e w' ⟨rfl, ⟨nd, rfl⟩⟩; have hcz64_0 : w60.cell? ⟨gb283, 0, none⟩ = some (.int .i64 0) := (blk_cell BK283.out 0).trans rfl; have hcz64_1 : w60.cell? ⟨gb283, 1, none⟩ = some (.slice none 0 0) := (blk_cell BK283.out 1).trans rfl; have hcz64_2 : w60.cell? ⟨gb283, 2, none⟩ = some (.string (⟨#[]⟩ : ByteArray)) := (blk_cell BK283.out 2).trans rfl; have hcz64_3 : w60.cell? ⟨gb283, 3, none⟩ = some (.int .i64 0) := (blk_cell BK283.out 3).trans rfl; have hfz64_0 := blk_frozen BK283.out 0; have hfz64_1 := blk_frozen BK283.out 1; have hfz64_2 := blk_frozen BK283.out 2; have hfz64_3 := blk_frozen BK283.out 3))
  refine bodyPost_ret (results_cell_row rfl _ _ gb283 75 #[.int .i64 0, .slice none 0 0, .string (⟨#[]⟩ : ByteArray), .int .i64 3] (0, 0) _ rfl (by (with_reducible repeat (first | refine blk_drewN ?_ _ | refine blk_drew ?_ | refine blk_alloc ?_ _)); refine blk_put (cs := #[.int .i64 0, .slice none 0 0, .string (⟨#[]⟩ : ByteArray), .int .i64 0]) ?_ 3 _ rfl; (with_reducible repeat (first | refine blk_drewN ?_ _ | refine blk_drew ?_ | refine blk_alloc ?_ _)); refine blk_put (cs := #[.int .i64 0, .slice none 0 0, .string (⟨#[]⟩ : ByteArray), .int .i64 0]) ?_ 2 _ rfl; (with_reducible repeat (first | refine blk_drewN ?_ _ | refine blk_drew ?_ | refine blk_alloc ?_ _)); refine blk_put (cs := #[.int .i64 0, .slice none 0 0, .string (⟨#[]⟩ : ByteArray), .int .i64 0]) ?_ 1 _ rfl; (with_reducible repeat (first | refine blk_drewN ?_ _ | refine blk_drew ?_ | refine blk_alloc ?_ _)); refine blk_put (cs := #[.int .i64 0, .slice none 0 0, .string (⟨#[]⟩ : ByteArray), .int .i64 0]) ?_ 0 _ rfl; (with_reducible repeat (first | refine blk_drewN ?_ _ | refine blk_drew ?_ | refine blk_alloc ?_ _)); refine blk_far ?_ NB283_289.out _; (with_reducible repeat (first | refine blk_drewN ?_ _ | refine blk_drew ?_ | refine blk_alloc ?_ _)); refine blk_far ?_ NB283_289.out _; (with_reducible repeat (first | refine blk_drewN ?_ _ | refine blk_drew ?_ | refine blk_alloc ?_ _)); refine blk_far ?_ NB283_289.out _; exact bL BK283.out) Try.underlying75 rfl (by kernel_rfl)) rfl ?_
  exact ⟨_, by first | rfl | (simp [errW_none, errW_some] <;> rfl) | (simp [*, errW_none, errW_some] <;> rfl), by first | exact Kd.R_nil _ _ _ _ _ | exact Kd.N_nil _ _ _ _ _ | exact Kd.V_nil _ _ _ _ _ | exact Kd.Q_nil _ _ _ _ _ | exact Kd.S_nil _ _ _ _ _, hL HB.out⟩
 subst c44
 have H1 : (if 1 < (a0.size : Int) then (some (wrap64 (bt a0 1), t284, t287.extract 1 t287.size, 0)) else (none)) = some (r1, r2, r3, r4) := by rw [if_pos rfl] at H; exact H
 clear H
 have H := H1
 clear H1
 by_cases c45 : 1 < (a0.size : Int)
 rotate_left
 ·rw [if_neg c45] at H
  exact absurd H (by simp)
 rw [if_pos c45] at H
 have c45b0 : decide (1 < (a0.size : Int)) = true := decide_eq_true c45
 have c45b1 : decide (1 < a0.size) = true := decide_eq_true (by omega)
 clear c45
 have c47b0 := eq_true (of_decide_eq_true (by first | (with_reducible assumption) | assumption) : 1 ≤ (t287.size : Int))
 simp only [Option.some.injEq, Prod.mk.injEq] at H
 obtain ⟨rfl, rfl, rfl, rfl⟩ := H
 try go_wp2_with (first | ((with_reducible refine gate_callee (f := 61) rfl ?_); refine goesL_ (some 24) rfl rfl Try.func61 (by kernel_rfl) rfl #[.string (a0.extract 2 a0.size)] rfl (by (try simp only [List.map_toArray, List.map_cons, List.map_nil]); first | done | rfl | (simp only [List.length_drop, List.length_take]; rfl)) ?_; (with_reducible refine (shelfmarkref03_Cut.calls kj4 (a0.extract 2 a0.size) t284 t287 t288 _ A17.out).mono ?_); rintro e w48 ⟨v285, rfl, ho0, hb⟩; refine ⟨_, rfl, ?_⟩; have n0_ := Aside0.mk (Kd.R_lower ho0 (below_size (hL HB.out))); have n1_ := Aside0.mk (blk_below (bL BK283.out) hb); have n2_ := Aside0.mk (below_step (hL HB.out) hb); clear BK283; clear HB; have HO286 := n0_; have BK283 := n1_; have HB := n2_; clear n0_ n1_ n2_; (try clear hb); (try clear hb2); (try clear hk); (try clear hi); (try clear ho0)) | ((with_reducible refine gate_dst (N := 3) rfl ?_); (try (refine gate_guard (by rfl) ?_; dsimp only)); refine box_event ?hg (N := 3) ?hd (cs := #[.slice none 0 0, .string (⟨#[]⟩ : ByteArray), .int .i64 0]) (t := 95) ?hr ?_; (case hd => rfl); (case hg => rfl); (case hr => first | (go_simp; done) | (go_simp; rfl)); intro gb289 hg w49 hbox hb; have n0_ := Aside0.mk (Kd.R_below (rL HO286.out) hb); have n1_ := Aside0.mk (blk_below (bL BK283.out) hb); have n2_ := Aside0.mk (below_step (hL HB.out) hb); have n3_ := Aside0.mk (hbox); have n4_ := Above.mk ((by rw [hg]; exact (below_size (hL HB.out)) : w.heap.size ≤ gb289)); have n5_ := Above.mk ((by rw [hg]; exact (below_size (hL HB.out)) : w.heap.size ≤ gb289)); have n6_ := Aside0.mk ((by rw [hg]; exact Nat.ne_of_lt (blk_lt (g := gb283) (o := .cells #[.int .i64 0, .slice none 0 0, .string (⟨#[]⟩ : ByteArray), .int .i64 0] 75 (0, 0)) (bL BK283.out)) : gb283 ≠ gb289)); have n7_ := Aside0.mk ((by rw [hg]; exact Nat.ne_of_gt (blk_lt (g := gb283) (o := .cells #[.int .i64 0, .slice none 0 0, .string (⟨#[]⟩ : ByteArray), .int .i64 0] 75 (0, 0)) (bL BK283.out)) : gb289 ≠ gb283)); clear HO286; clear BK283; clear HB; have HO286 := n0_; have BK283 := n1_; have HB := n2_; have BK289 := n3_; have GW289 := n4_; have GE289 := n5_; have NB283_289 := n6_; have NB289_283 := n7_; clear n0_ n1_ n2_ n3_ n4_ n5_ n6_ n7_; clear hb hbox hg; obtain ⟨Ao50, co50, eo50⟩ := Kd.R_slice HO286.out; subst eo50; have hnb51 := NB289_283.out; have hnc51 := NB283_289.out; have hcz52_0 : w49.cell? ⟨gb289, 0, none⟩ = some (.slice none 0 0) := (blk_cell BK289.out 0).trans rfl; have hcz52_1 : w49.cell? ⟨gb289, 1, none⟩ = some (.string (⟨#[]⟩ : ByteArray)) := (blk_cell BK289.out 1).trans rfl; have hcz52_2 : w49.cell? ⟨gb289, 2, none⟩ = some (.int .i64 0) := (blk_cell BK289.out 2).trans rfl; have hfz52_0 := blk_frozen BK289.out 0; have hfz52_1 := blk_frozen BK289.out 1; have hfz52_2 := blk_frozen BK289.out 2) | (go_at_call 62; (with_reducible refine (shelfmarkref04_full.calls kj4 _ _ t284 true _ ?side1 ?side2 A33.out).mono ?_); (case side1 => refine (Kd.R_reads' (e := 105) (base := w.heap.size) (ok := fun k_ => True) (n := t284.length) (c := co50) ?_).2.2; exact (by (with_reducible repeat (first | apply Kd.R_alloc | apply Kd.R_drewN | apply Kd.R_drew)); exact (Kd.R_mono (Kd.R_far (p := ⟨gb289, 2, none⟩) (Kd.R_far (p := ⟨gb289, 1, none⟩) (Kd.R_far (p := ⟨gb289, 0, none⟩) (Kd.R_types HO286.out BK289.out (by decide)) (fun _ hk => hk.2) (.slice Ao50 t284.length co50)) (fun _ hk => hk.2) (.string t287)) (fun _ hk => hk.2) (.int .i64 t288)) (fun _ h_ => h_.1)))); (case side2 => exact (Kd.R_reads' HO286.out).2.1); rintro e w' ⟨rfl, ⟨nd, rfl⟩⟩) | (go_at_call 63; (with_reducible refine (shelfmarkref04_Key.calls (t287.extract 1 t287.size) true _ A43.out).mono ?_); rintro e w' ⟨rfl, ⟨nd, rfl⟩⟩))
 have n0_ : Aside0 (Kd.R k105 105 (((w49.setCell ⟨gb289, 0, none⟩ (.slice Ao50 t284.length co50)).setCell ⟨gb289, 1, none⟩ (.string t287)).setCell ⟨gb289, 2, none⟩ (.int .i64 t288)) w.heap.size (fun _ => True) (.slice Ao50 t284.length co50) t284) := ⟨by (with_reducible repeat (first | apply Kd.R_alloc | apply Kd.R_drewN | apply Kd.R_drew)); exact Kd.R_mono (Kd.R_far (p := ⟨gb289, 2, none⟩) (Kd.R_far (p := ⟨gb289, 1, none⟩) (Kd.R_far (p := ⟨gb289, 0, none⟩) (Kd.R_types HO286.out BK289.out (by decide)) (fun _ hk => hk.2) (.slice Ao50 t284.length co50)) (fun _ hk => hk.2) (.string t287)) (fun _ hk => hk.2) (.int .i64 t288)) (fun _ hk => trivial)⟩
 have n1_ : Aside0 ((((w49.setCell ⟨gb289, 0, none⟩ (.slice Ao50 t284.length co50)).setCell ⟨gb289, 1, none⟩ (.string t287)).setCell ⟨gb289, 2, none⟩ (.int .i64 t288)).heap[gb283]? = some (.cells #[.int .i64 0, .slice none 0 0, .string (⟨#[]⟩ : ByteArray), .int .i64 0] 75 (0, 0))) := ⟨by (with_reducible repeat (first | refine blk_drewN ?_ _ | refine blk_drew ?_ | refine blk_alloc ?_ _)); refine blk_far ?_ NB283_289.out _; (with_reducible repeat (first | refine blk_drewN ?_ _ | refine blk_drew ?_ | refine blk_alloc ?_ _)); refine blk_far ?_ NB283_289.out _; (with_reducible repeat (first | refine blk_drewN ?_ _ | refine blk_drew ?_ | refine blk_alloc ?_ _)); refine blk_far ?_ NB283_289.out _; exact bL BK283.out⟩
 have n2_ : Aside0 ((((w49.setCell ⟨gb289, 0, none⟩ (.slice Ao50 t284.length co50)).setCell ⟨gb289, 1, none⟩ (.string t287)).setCell ⟨gb289, 2, none⟩ (.int .i64 t288)).heap[gb289]? = some (.cells #[.slice Ao50 t284.length co50, .string t287, .int .i64 t288] 95 (0, 0))) := ⟨by (with_reducible repeat (first | refine blk_drewN ?_ _ | refine blk_drew ?_ | refine blk_alloc ?_ _)); refine blk_put (cs := #[.slice Ao50 t284.length co50, .string t287, .int .i64 0]) ?_ 2 _ rfl; (with_reducible repeat (first | refine blk_drewN ?_ _ | refine blk_drew ?_ | refine blk_alloc ?_ _)); refine blk_put (cs := #[.slice Ao50 t284.length co50, .string (⟨#[]⟩ : ByteArray), .int .i64 0]) ?_ 1 _ rfl; (with_reducible repeat (first | refine blk_drewN ?_ _ | refine blk_drew ?_ | refine blk_alloc ?_ _)); refine blk_put (cs := #[.slice none 0 0, .string (⟨#[]⟩ : ByteArray), .int .i64 0]) ?_ 0 _ rfl; exact bL BK289.out⟩
 have n3_ : Aside0 (Below w.heap.size w (((w49.setCell ⟨gb289, 0, none⟩ (.slice Ao50 t284.length co50)).setCell ⟨gb289, 1, none⟩ (.string t287)).setCell ⟨gb289, 2, none⟩ (.int .i64 t288))) := ⟨hL HB.out⟩
 (try clear HO286)
 (try clear BK283)
 (try clear BK289)
 (try clear HB)
 generalize (((w49.setCell ⟨gb289, 0, none⟩ (.slice Ao50 t284.length co50)).setCell ⟨gb289, 1, none⟩ (.string t287)).setCell ⟨gb289, 2, none⟩ (.int .i64 t288)) = w53 at n0_ n1_ n2_ n3_ ⊢
 have HO286 := n0_
 have BK283 := n1_
 have BK289 := n2_
 have HB := n3_
 clear n0_ n1_ n2_ n3_
 (try (rw [drewN_self w53]; generalize hq_ : World.drewN w53 _ = w53; have n0_ : Aside0 (Kd.R k105 105 w53 w.heap.size (fun _ => True) (.slice Ao50 t284.length co50) t284) := ⟨by rw [← hq_]; exact (rL HO286.out)⟩; have n1_ : Aside0 (w53.heap[gb283]? = some (.cells #[.int .i64 0, .slice none 0 0, .string (⟨#[]⟩ : ByteArray), .int .i64 0] 75 (0, 0))) := ⟨by rw [← hq_]; exact (bL BK283.out)⟩; have n2_ : Aside0 (w53.heap[gb289]? = some (.cells #[.slice Ao50 t284.length co50, .string t287, .int .i64 t288] 95 (0, 0))) := ⟨by rw [← hq_]; exact (bL BK289.out)⟩; have n3_ : Aside0 (Below w.heap.size w w53) := ⟨by rw [← hq_]; exact (hL HB.out)⟩; clear HO286 BK283 BK289 HB hq_; have HO286 := n0_; have BK283 := n1_; have BK289 := n2_; have HB := n3_; clear n0_ n1_ n2_ n3_))
 have n0_ := Aside0.mk (Kd.R_drew HO286.out)
 have n1_ := Aside0.mk (blk_drew BK283.out)
 have n2_ := Aside0.mk (blk_drew BK289.out)
 have n3_ := Aside0.mk (below_drew1 HB.out)
 clear HO286
 clear BK283
 clear BK289
 clear HB
 have HO286 := n0_
 have BK283 := n1_
 have BK289 := n2_
 have HB := n3_
 clear n0_ n1_ n2_ n3_
 have p46 : 0 ≤ (1 : Int) := (by omega)
 have q46 : 1 < a0.size := (by have : (1 : Int) < (a0.size : Int) := of_decide_eq_true (by first | (with_reducible assumption) | assumption); omega)
 have hx46 : ∀ h : 1 < a0.size, ((a0[1]'h).toNat : Int) = bt a0 1 := bt_at a0 1
 clear p46
 have qi46 : (1 < (a0.size : Int)) = True := eq_true (of_decide_eq_true (by first | (with_reducible assumption) | assumption))
 replace q46 := eq_true q46
 refine start_ (n := 10) (S := fun w' => w'.cell? ⟨gb289, 0, none⟩ = some (.slice Ao50 t284.length co50) ∧ w'.cell? ⟨gb289, 1, none⟩ = some (.string t287) ∧ w'.cell? ⟨gb289, 2, none⟩ = some (.int .i64 t288)) (ds := []) #[false, false, false, false, false, false, false, false, false, false] (by kernel_rfl) rfl rfl ⟨(blk_cell BK289.out 0).trans rfl, (blk_cell BK289.out 1).trans rfl, (blk_cell BK289.out 2).trans rfl⟩ (fun hHeld => ?_); refine with_tabW shelfmarkref04_Parse.tab10 shelfmarkref04_Parse.bits10 (fun HT_ HW_ => ?_)
 generalize w53.drew = w54 at HO286 BK283 BK289 HB hHeld ⊢
 refine pure_ (i := 0) (N := some 60) (v := ?_) (a' := ?_) #[true, false, false, false, false, false, false, false, false, false] rfl rfl (any_of HT_.out (by kernel_rfl)) (fun _ _ _ h => h) (Or.inl ⟨by rfl, ?_⟩) ?_ ?_
 rotate_left
 ·intro w'
  go_simp
  with_reducible rfl
 rotate_left
 ·simp only [Act.put, sT, sZ, sS, i64_w, i32_w]
  rfl
 refine pure_ (i := 3) (N := some 63) (v := ?_) (a' := ?_) #[true, false, false, true, false, false, false, false, false, false] rfl rfl (any_of HT_.out (by kernel_rfl)) (fun _ _ _ h => h) (Or.inl ⟨by rfl, ?_⟩) ?_ ?_
 rotate_left
 ·intro w'
  go_simp
  with_reducible rfl
 rotate_left
 ·simp only [Act.put, sT, sZ, sS, i64_w, i32_w]
  rfl
 refine pure_ (i := 5) (N := some 65) (v := ?_) (a' := ?_) #[true, false, false, true, false, true, false, false, false, false] rfl rfl (any_of HT_.out (by kernel_rfl)) (fun _ _ _ h => h) (Or.inl ⟨by rfl, ?_⟩) ?_ ?_
 rotate_left
 ·intro w'
  go_simp
  with_reducible rfl
 rotate_left
 ·simp only [Act.put, sT, sZ, sS, i64_w, i32_w]
  rfl
 refine take_ (i := 1) (N := some 61) (v := ?_) (a' := ?_) #[true, true, false, true, false, true, false, false, false, false] rfl rfl (take_ofW HT_.out HW_.out (by kernel_rfl)) (fun _ _ _ h => h) (Or.inl ⟨by rfl, ?_⟩) hHeld ?_ ?_
 rotate_left
 ·rintro w' ⟨s0, s1, s2⟩
  go_simp
  with_reducible rfl
 rotate_left
 ·simp only [Act.put, sT, sZ, sS, i64_w, i32_w]
  rfl
 refine pure_ (i := 2) (N := some 62) (v := ?_) (a' := ?_) #[true, true, true, true, false, true, false, false, false, false] rfl rfl (any_of HT_.out (by kernel_rfl)) (fun _ _ _ h => h) (Or.inl ⟨by rfl, ?_⟩) ?_ ?_
 rotate_left
 ·intro w'
  go_simp
  with_reducible rfl
 rotate_left
 ·simp only [Act.put, sT, sZ, sS, i64_w, i32_w]
  rfl
 refine take_ (i := 4) (N := some 64) (v := ?_) (a' := ?_) #[true, true, true, true, true, true, false, false, false, false] rfl rfl (take_ofW HT_.out HW_.out (by kernel_rfl)) (fun _ _ _ h => h) (Or.inl ⟨by rfl, ?_⟩) hHeld ?_ ?_
 rotate_left
 ·rintro w' ⟨s0, s1, s2⟩
  go_simp
  with_reducible rfl
 rotate_left
 ·simp only [Act.put, sT, sZ, sS, i64_w, i32_w]
  rfl
 refine take_ (i := 6) (N := some 66) (v := ?_) (a' := ?_) #[true, true, true, true, true, true, true, false, false, false] rfl rfl (take_ofW HT_.out HW_.out (by kernel_rfl)) (fun _ _ _ h => h) (Or.inl ⟨by rfl, ?_⟩) hHeld ?_ ?_
 rotate_left
 ·rintro w' ⟨s0, s1, s2⟩
  go_simp
  with_reducible rfl
 rotate_left
 ·simp only [Act.put, sT, sZ, sS, i64_w, i32_w]
  rfl
 refine pure_ (i := 7) (N := some 67) (v := ?_) (a' := ?_) #[true, true, true, true, true, true, true, true, false, false] rfl rfl (any_of HT_.out (by kernel_rfl)) (fun _ _ _ h => h) (Or.inl ⟨by rfl, ?_⟩) ?_ ?_
 rotate_left
 ·intro w'
  go_simp
  with_reducible rfl
 rotate_left
 ·simp only [Act.put, sT, sZ, sS, i64_w, i32_w]
  rfl
 refine pure_ (i := 8) (N := some 68) (v := ?_) (a' := ?_) #[true, true, true, true, true, true, true, true, true, false] rfl rfl (any_of HT_.out (by kernel_rfl)) (fun _ _ _ h => h) (Or.inl ⟨by rfl, ?_⟩) ?_ ?_
 rotate_left
 ·intro w'
  go_simp
  with_reducible rfl
 rotate_left
 ·simp only [Act.put, sT, sZ, sS, i64_w, i32_w]
  rfl
 refine one_ (i := 9) (N := none) #[true, true, true, true, true, true, true, true, true, true] rfl rfl (one_of HT_.out (by kernel_rfl)) (by decide) (fun K hK => ?_)
 have hs55 : w54.cell? ⟨gb283, 0, none⟩ = some (.int .i64 0) := (blk_cell BK283.out 0).trans rfl
 have hfs55 := blk_frozen BK283.out 0
 have hns55_1 := NB289_283.out
 have hms55_1 := NB283_289.out
 have hs56 : w54.cell? ⟨gb283, 1, none⟩ = some (.slice none 0 0) := (blk_cell BK283.out 1).trans rfl
 have hfs56 := blk_frozen BK283.out 1
 have hns56_1 := NB289_283.out
 have hms56_1 := NB283_289.out
 have hs57 : w54.cell? ⟨gb283, 2, none⟩ = some (.string (⟨#[]⟩ : ByteArray)) := (blk_cell BK283.out 2).trans rfl
 have hfs57 := blk_frozen BK283.out 2
 have hns57_1 := NB289_283.out
 have hms57_1 := NB283_289.out
 have hs58 : w54.cell? ⟨gb283, 3, none⟩ = some (.int .i64 0) := (blk_cell BK283.out 3).trans rfl
 have hfs58 := blk_frozen BK283.out 3
 have hns58_1 := NB289_283.out
 have hms58_1 := NB283_289.out
 refine skip_ (w1 := ?_) (by rfl) rfl ?_ ?_
 rotate_left
 ·go_simp
  rfl
 refine hK.out _ _ ⟨((cell_far (p := ⟨gb283, _, none⟩) NB289_283.out _).trans (((cell_far (p := ⟨gb283, _, none⟩) NB289_283.out _).trans (((cell_far (p := ⟨gb283, _, none⟩) NB289_283.out _).trans (((cell_far (p := ⟨gb283, _, none⟩) NB289_283.out _).trans (hHeld.1)))))))), ((cell_far (p := ⟨gb283, _, none⟩) NB289_283.out _).trans (((cell_far (p := ⟨gb283, _, none⟩) NB289_283.out _).trans (((cell_far (p := ⟨gb283, _, none⟩) NB289_283.out _).trans (((cell_far (p := ⟨gb283, _, none⟩) NB289_283.out _).trans (hHeld.2.1)))))))), ((cell_far (p := ⟨gb283, _, none⟩) NB289_283.out _).trans (((cell_far (p := ⟨gb283, _, none⟩) NB289_283.out _).trans (((cell_far (p := ⟨gb283, _, none⟩) NB289_283.out _).trans (((cell_far (p := ⟨gb283, _, none⟩) NB289_283.out _).trans (hHeld.2.2))))))))⟩ (fun hHeld => ?_)
 clear hK K
 refine done_ (done_of HT_.out (by kernel_rfl)) ?_
 try go_wp2
 refine bodyPost_ret (results_cell_row rfl _ _ gb283 75 #[.int .i64 (wrap64 (bt a0 1)), .slice Ao50 t284.length co50, .string (t287.extract 1 t287.size), .int .i64 0] (0, 0) _ rfl (by (with_reducible repeat (first | refine blk_drewN ?_ _ | refine blk_drew ?_ | refine blk_alloc ?_ _)); refine blk_put (cs := #[.int .i64 (wrap64 (bt a0 1)), .slice Ao50 t284.length co50, .string (t287.extract 1 t287.size), .int .i64 0]) ?_ 3 _ rfl; (with_reducible repeat (first | refine blk_drewN ?_ _ | refine blk_drew ?_ | refine blk_alloc ?_ _)); refine blk_put (cs := #[.int .i64 (wrap64 (bt a0 1)), .slice Ao50 t284.length co50, .string (⟨#[]⟩ : ByteArray), .int .i64 0]) ?_ 2 _ rfl; (with_reducible repeat (first | refine blk_drewN ?_ _ | refine blk_drew ?_ | refine blk_alloc ?_ _)); refine blk_put (cs := #[.int .i64 (wrap64 (bt a0 1)), .slice none 0 0, .string (⟨#[]⟩ : ByteArray), .int .i64 0]) ?_ 1 _ rfl; (with_reducible repeat (first | refine blk_drewN ?_ _ | refine blk_drew ?_ | refine blk_alloc ?_ _)); refine blk_put (cs := #[.int .i64 0, .slice none 0 0, .string (⟨#[]⟩ : ByteArray), .int .i64 0]) ?_ 0 _ rfl; exact bL BK283.out) Try.underlying75 rfl (by kernel_rfl)) rfl ?_
 exact ⟨_, by first | rfl | (simp [errW_none, errW_some] <;> rfl) | (simp [*, errW_none, errW_some] <;> rfl), by (with_reducible repeat (first | apply Kd.R_alloc | apply Kd.R_drewN | apply Kd.R_drew)); exact Kd.R_mono (Kd.R_far (p := ⟨gb283, 3, none⟩) (Kd.R_far (p := ⟨gb283, 2, none⟩) (Kd.R_far (p := ⟨gb283, 1, none⟩) (Kd.R_far (p := ⟨gb283, 0, none⟩) (Kd.R_types HO286.out BK283.out (by decide)) (fun _ hk => hk.2) (.int .i64 (wrap64 (bt a0 1)))) (fun _ hk => hk.2) (.slice Ao50 t284.length co50)) (fun _ hk => hk.2) (.string (t287.extract 1 t287.size))) (fun _ hk => hk.2) (.int .i64 0)) (fun _ hk => trivial), hL HB.out⟩

end Go.Proofs.Ytdaikljbljcagaa.PAll
