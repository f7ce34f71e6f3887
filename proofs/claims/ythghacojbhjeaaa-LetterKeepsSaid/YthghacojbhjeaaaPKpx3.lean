-- Written by a program of this session for this claim (mp.py, over the kit's print); Lean checks it.
import Derived.Test.YthghacojbhjeaaaPKpx0
namespace Go.Proofs.Ythghacojbhjeaaa.PKp
open Go.RowKit Go.Proofs.YthghacojbhjeaaaW.PrintWords Go.Proofs.YthghacojbhjeaaaW.PrintLast Go.Proofs.YthghacojbhjeaaaW.PrintMore Go.Proofs.Ythghacojbhjeaaa.Fv Go.Proofs.Ythghacojbhjeaaa.Hl
attribute [local go_sem] max2_int min2_int max_two min_two max_three min_three max_four min_four str_gtr str_leq str_geq cell_set2   -- for this text's walks alone
set_option linter.unusedVariables false
set_option linter.unusedSimpArgs false

/-! ### shelfmarkref01_GetNum: function 47 -/
mutual
def shelfmarkref01_GetNum.j0 : Nat → List Int → Int → Bool → Option (Int × ByteArray × List ByteArray × Int × Int)
 | 0, _, _, _ => none
 | k + 1, x0, x1, x16 => if x16 = true then (some (0, (⟨#[]⟩ : ByteArray), ([] : List ByteArray), 0, 1)) else (shelfmarkref01_GetNum.l0 k x0 x1 0 1 0)
def shelfmarkref01_GetNum.l0 : Nat → List Int → Int → Int → Int → Int → Option (Int × ByteArray × List ByteArray × Int × Int)
 | 0, _, _, _, _, _ => none
 | k + 1, x0, x1, x5, x6, x7 => if x7 < 9 then (if x1 ≥ (x0.length : Int) then (some (0, (⟨#[]⟩ : ByteArray), ([] : List ByteArray), 0, 2)) else (if 0 ≤ x1 then (if x1 < (x0.length : Int) then (if (wrap64 (rd x0 x1)) ≥ 128 then (if x7 = 8 then (shelfmarkref01_GetNum.j2 k x0 (wrap64 (x1 + 1)) x5 x6 x7 (wrap64 (rd x0 x1)) true) else (if (wrap64 (rd x0 x1)) = 0 then (shelfmarkref01_GetNum.j2 k x0 (wrap64 (x1 + 1)) x5 x6 x7 (wrap64 (rd x0 x1)) (decide (x7 > 0))) else (shelfmarkref01_GetNum.j2 k x0 (wrap64 (x1 + 1)) x5 x6 x7 (wrap64 (rd x0 x1)) false))) else (if (wrap64 (rd x0 x1)) = 0 then (shelfmarkref01_GetNum.j2 k x0 (wrap64 (x1 + 1)) x5 x6 x7 (wrap64 (rd x0 x1)) (decide (x7 > 0))) else (shelfmarkref01_GetNum.j2 k x0 (wrap64 (x1 + 1)) x5 x6 x7 (wrap64 (rd x0 x1)) false))) else (none)) else (none))) else (some (0, (⟨#[]⟩ : ByteArray), ([] : List ByteArray), 0, 3))
def shelfmarkref01_GetNum.j2 : Nat → List Int → Int → Int → Int → Int → Int → Bool → Option (Int × ByteArray × List ByteArray × Int × Int)
 | 0, _, _, _, _, _, _, _ => none
 | k + 1, x0, x1, x5, x6, x7, x8, x47 => if x47 = true then (some (0, (⟨#[]⟩ : ByteArray), ([] : List ByteArray), 0, 3)) else (if x8 < 128 then (some (wrap64 (x5 + (wrap64 ((Int.tmod x8 128) * x6))), (⟨#[]⟩ : ByteArray), ([] : List ByteArray), x1, 0)) else (shelfmarkref01_GetNum.l0 k x0 x1 (wrap64 (x5 + (wrap64 ((Int.tmod x8 128) * x6)))) (wrap64 (x6 * 128)) (wrap64 (x7 + 1))))
end
def shelfmarkref01_GetNum.f (k : Nat) (l0 : List Int) (a1 : Int) : Option (Int × ByteArray × List ByteArray × Int × Int) := if a1 < 0 then (shelfmarkref01_GetNum.j0 k l0 a1 true) else (shelfmarkref01_GetNum.j0 k l0 a1 (decide (a1 > (l0.length : Int))))
theorem shelfmarkref01_GetNum.mono_l : ∀ k, (∀ y0 y1 y2, LeO (shelfmarkref01_GetNum.j0 k y0 y1 y2) (shelfmarkref01_GetNum.j0 (k + 1) y0 y1 y2)) ∧ (∀ y0 y1 y2 y3 y4, LeO (shelfmarkref01_GetNum.l0 k y0 y1 y2 y3 y4) (shelfmarkref01_GetNum.l0 (k + 1) y0 y1 y2 y3 y4)) ∧ (∀ y0 y1 y2 y3 y4 y5 y6, LeO (shelfmarkref01_GetNum.j2 k y0 y1 y2 y3 y4 y5 y6) (shelfmarkref01_GetNum.j2 (k + 1) y0 y1 y2 y3 y4 y5 y6))
 | 0 => ⟨fun _ _ _ r h => by simp [shelfmarkref01_GetNum.j0] at h, fun _ _ _ _ _ r h => by simp [shelfmarkref01_GetNum.l0] at h, fun _ _ _ _ _ _ _ r h => by simp [shelfmarkref01_GetNum.j2] at h⟩
 | k + 1 => by
  obtain ⟨ih0, ih1, ih2⟩ := shelfmarkref01_GetNum.mono_l k
  refine ⟨?_, ?_, ?_⟩
  ·intro y0 y1 y2
   unfold shelfmarkref01_GetNum.j0
   repeat' first
   | (with_reducible exact ih0 _ _ _)
   | (with_reducible exact ih1 _ _ _ _ _)
   | (with_reducible exact ih2 _ _ _ _ _ _ _)
   | (with_reducible exact LeO.refl _)
   | (with_reducible exact LeO.none _)
   | (with_reducible refine LeO.ite ?_ ?_)
   | (with_reducible refine LeO.bind ?_ (fun _ => ?_))
   | exact ih0 _ _ _
   | exact ih1 _ _ _ _ _
   | exact ih2 _ _ _ _ _ _ _
   | exact LeO.none _
   | refine LeO.ite ?_ ?_
   | refine LeO.bind ?_ (fun _ => ?_)
  ·intro y0 y1 y2 y3 y4
   unfold shelfmarkref01_GetNum.l0
   repeat' first
   | (with_reducible exact ih0 _ _ _)
   | (with_reducible exact ih1 _ _ _ _ _)
   | (with_reducible exact ih2 _ _ _ _ _ _ _)
   | (with_reducible exact LeO.refl _)
   | (with_reducible exact LeO.none _)
   | (with_reducible refine LeO.ite ?_ ?_)
   | (with_reducible refine LeO.bind ?_ (fun _ => ?_))
   | exact ih0 _ _ _
   | exact ih1 _ _ _ _ _
   | exact ih2 _ _ _ _ _ _ _
   | exact LeO.none _
   | refine LeO.ite ?_ ?_
   | refine LeO.bind ?_ (fun _ => ?_)
  ·intro y0 y1 y2 y3 y4 y5 y6
   unfold shelfmarkref01_GetNum.j2
   repeat' first
   | (with_reducible exact ih0 _ _ _)
   | (with_reducible exact ih1 _ _ _ _ _)
   | (with_reducible exact ih2 _ _ _ _ _ _ _)
   | (with_reducible exact LeO.refl _)
   | (with_reducible exact LeO.none _)
   | (with_reducible refine LeO.ite ?_ ?_)
   | (with_reducible refine LeO.bind ?_ (fun _ => ?_))
   | exact ih0 _ _ _
   | exact ih1 _ _ _ _ _
   | exact ih2 _ _ _ _ _ _ _
   | exact LeO.none _
   | refine LeO.ite ?_ ?_
   | refine LeO.bind ?_ (fun _ => ?_)
theorem shelfmarkref01_GetNum.mono : ∀ a0 a1 k, LeO (shelfmarkref01_GetNum.f k a0 a1) (shelfmarkref01_GetNum.f (k + 1) a0 a1) := by
 intro a0 a1 k
 obtain ⟨ih0, ih1, ih2⟩ := shelfmarkref01_GetNum.mono_l k
 unfold shelfmarkref01_GetNum.f
 repeat' first
   | (with_reducible exact ih0 _ _ _)
   | (with_reducible exact ih1 _ _ _ _ _)
   | (with_reducible exact ih2 _ _ _ _ _ _ _)
   | (with_reducible exact LeO.refl _)
   | (with_reducible exact LeO.none _)
   | (with_reducible refine LeO.ite ?_ ?_)
   | (with_reducible refine LeO.bind ?_ (fun _ => ?_))
   | exact ih0 _ _ _
   | exact ih1 _ _ _ _ _
   | exact ih2 _ _ _ _ _ _ _
   | exact LeO.none _
   | refine LeO.ite ?_ ?_
   | refine LeO.bind ?_ (fun _ => ?_)
set_option maxHeartbeats 8000000 in
set_option maxRecDepth 100000 in
theorem shelfmarkref01_GetNum.calls (k : Nat) (A0 : Option Addr) (c0 : Nat) (l0 : List Int) (a1 : Int) (r1 : Int) (r2 : ByteArray) (r3 : List ByteArray) (r4 : Int) (r5 : Int) (w : World) (hr0 : Kd.C (Kd.int .u8) w A0 l0.length l0) (hc0 : l0.length ≤ c0) (h : shelfmarkref01_GetNum.f k l0 a1 = some (r1, r2, r3, r4, r5)) :
  Calls Try.prog 47 #[.slice A0 l0.length c0, .int .i64 a1] w fun e w' => ∃ v2_ : Value, e = .returned (.agg #[.int .i64 r1, .string r2, v2_, .int .i64 r4, .int .i64 r5]) ∧ Kd.R Kd.string 9 w' w.heap.size (fun _ => True) v2_ r3 ∧ Below w.heap.size w w' := by
 have hu82 := Try.underlying82
 have HR0 := Aside0.mk hr0
 have HC0 := Aside0.mk hc0
 clear hr0 hc0
 have HB := Aside0.mk (Below.refl w.heap.size w)
 have H : (if a1 < 0 then (shelfmarkref01_GetNum.j0 k l0 a1 true) else (shelfmarkref01_GetNum.j0 k l0 a1 (decide (a1 > (l0.length : Int))))) = some (r1, r2, r3, r4, r5) := h
 clear h
 have HC3 := Aside0.mk H
 clear H
 go_enter Try.func47, Try.ntmps47
 go_upto_region 1 with (first | ((with_reducible refine gate_dst (N := 4) rfl ?_); (try (refine gate_guard (by rfl) ?_; dsimp only)); refine box_event ?hg (N := 4) ?hd (cs := #[.int .i64 0, .string (⟨#[]⟩ : ByteArray), .slice none 0 0, .int .i64 0, .int .i64 0]) (t := 82) ?hr ?_; (case hd => rfl); (case hg => rfl); (case hr => first | (go_simp; done) | (go_simp; rfl)); intro gb101 hg w4 hbox hb; have n0_ := Aside0.mk (below_step (hL HB.out) hb); have n1_ := Aside0.mk (hbox); have n2_ := Above.mk ((by rw [hg]; exact (below_size (hL HB.out)) : w.heap.size ≤ gb101)); have n3_ := Above.mk ((by rw [hg]; exact (below_size (hL HB.out)) : w.heap.size ≤ gb101)); clear HB; have HB := n0_; have BK101 := n1_; have GW101 := n2_; have GE101 := n3_; clear n0_ n1_ n2_ n3_; clear hb hbox hg))
 (try simp only [Act.put, sT, sZ, sS])
 go_cut [16] (fun v16 wc => ∃ (kq : Nat) (x16_2 : Bool), v16 = .bool x16_2 ∧ Aside0 (shelfmarkref01_GetNum.j0 kq l0 a1 x16_2 = some (r1, r2, r3, r4, r5)) ∧ Aside0 (kq ≤ k) ∧ Aside0 (wc.heap[gb101]? = some (.cells #[.int .i64 0, .string (⟨#[]⟩ : ByteArray), (.slice none 0 0), .int .i64 0, .int .i64 0] 82 (0, 0))) ∧ Aside0 (Below w.heap.size w wc))
 case first =>
  have H := HC3.out
  clear HC3
  by_cases c5 : a1 < 0
  ·rw [if_pos c5] at H
   have c5b0 : decide (a1 < 0) = true := decide_eq_true c5
   clear c5
   (first | rw [c5b0] | (simp only [i64_w, i32_w]; rw [c5b0]) | skip)
   have H' := Aside0.mk H
   clear H
   go_wp2
   go_meet
   case rel => exact ⟨_, (true), (by first | rfl | (simp; done) | (simp [*]; done) | (simp [ne_nil_bytes]; done) | (simp [eq_nil_bytes]; done)), H', ⟨by first | omega | exact Nat.le_refl _⟩, ⟨by exact bL BK101.out⟩, ⟨hL HB.out⟩⟩
  rw [if_neg c5] at H
  have c5b0 : decide (a1 < 0) = false := decide_eq_false c5
  clear c5
  (first | rw [c5b0] | (simp only [i64_w, i32_w]; rw [c5b0]) | skip)
  have H' := Aside0.mk H
  clear H
  go_wp2
  go_meet
  case rel => exact ⟨_, (decide (a1 > (l0.length : Int))), (by first | rfl | (simp; done) | (simp [*]; done) | (simp [ne_nil_bytes]; done) | (simp [eq_nil_bytes]; done)), H', ⟨by first | omega | exact Nat.le_refl _⟩, ⟨by exact bL BK101.out⟩, ⟨hL HB.out⟩⟩
 clear HC3
 try clear p2
 try clear c4
 try clear c5
 try clear c5b0
 try clear c5b0z
 obtain ⟨kq, x16_2, rfl, HA, HJ2, BK101, HB⟩ := hcut
 rcases kq with _ | kj2
 ·exact absurd HA.out (by simp [shelfmarkref01_GetNum.j0])
 have H := HA.out
 clear HA
 simp only [shelfmarkref01_GetNum.j0] at H
 by_cases c6 : x16_2 = true
 ·subst c6
  have H1 : (some (0, (⟨#[]⟩ : ByteArray), ([] : List ByteArray), 0, 1)) = some (r1, r2, r3, r4, r5) := by rw [if_pos rfl] at H; exact H
  clear H
  have H := H1
  clear H1
  simp only [Option.some.injEq, Prod.mk.injEq] at H
  obtain ⟨rfl, rfl, rfl, rfl, rfl⟩ := H
  have hcz7_0 : wc.cell? ⟨gb101, 0, none⟩ = some (.int .i64 0) := (blk_cell BK101.out 0).trans rfl
  have hcz7_1 : wc.cell? ⟨gb101, 1, none⟩ = some (.string (⟨#[]⟩ : ByteArray)) := (blk_cell BK101.out 1).trans rfl
  have hcz7_2 : wc.cell? ⟨gb101, 2, none⟩ = some (.slice none 0 0) := (blk_cell BK101.out 2).trans rfl
  have hcz7_3 : wc.cell? ⟨gb101, 3, none⟩ = some (.int .i64 0) := (blk_cell BK101.out 3).trans rfl
  have hcz7_4 : wc.cell? ⟨gb101, 4, none⟩ = some (.int .i64 0) := (blk_cell BK101.out 4).trans rfl
  have hfz7_0 := blk_frozen BK101.out 0
  have hfz7_1 := blk_frozen BK101.out 1
  have hfz7_2 := blk_frozen BK101.out 2
  have hfz7_3 := blk_frozen BK101.out 3
  have hfz7_4 := blk_frozen BK101.out 4
  go_wp2
  refine bodyPost_ret (results_cell_row rfl _ _ gb101 82 #[.int .i64 0, .string (⟨#[]⟩ : ByteArray), .slice none 0 0, .int .i64 0, .int .i64 1] (0, 0) _ rfl (by (with_reducible repeat (first | refine blk_drewN ?_ _ | refine blk_drew ?_ | refine blk_alloc ?_ _)); refine blk_put (cs := #[.int .i64 0, .string (⟨#[]⟩ : ByteArray), .slice none 0 0, .int .i64 0, .int .i64 0]) ?_ 4 _ rfl; (with_reducible repeat (first | refine blk_drewN ?_ _ | refine blk_drew ?_ | refine blk_alloc ?_ _)); refine blk_put (cs := #[.int .i64 0, .string (⟨#[]⟩ : ByteArray), .slice none 0 0, .int .i64 0, .int .i64 0]) ?_ 3 _ rfl; (with_reducible repeat (first | refine blk_drewN ?_ _ | refine blk_drew ?_ | refine blk_alloc ?_ _)); refine blk_put (cs := #[.int .i64 0, .string (⟨#[]⟩ : ByteArray), .slice none 0 0, .int .i64 0, .int .i64 0]) ?_ 2 _ rfl; (with_reducible repeat (first | refine blk_drewN ?_ _ | refine blk_drew ?_ | refine blk_alloc ?_ _)); refine blk_put (cs := #[.int .i64 0, .string (⟨#[]⟩ : ByteArray), .slice none 0 0, .int .i64 0, .int .i64 0]) ?_ 1 _ rfl; (with_reducible repeat (first | refine blk_drewN ?_ _ | refine blk_drew ?_ | refine blk_alloc ?_ _)); refine blk_put (cs := #[.int .i64 0, .string (⟨#[]⟩ : ByteArray), .slice none 0 0, .int .i64 0, .int .i64 0]) ?_ 0 _ rfl; exact bL BK101.out) Try.underlying82 rfl (by kernel_rfl)) rfl ?_
  exact ⟨_, by first | rfl | (simp [errW_none, errW_some] <;> rfl) | (simp [*, errW_none, errW_some] <;> rfl), by first | exact Kd.R_nil _ _ _ _ _ | exact Kd.N_nil _ _ _ _ _ | exact Kd.V_nil _ _ _ _ _ | exact Kd.Q_nil _ _ _ _ _ | exact Kd.S_nil _ _ _ _ _, hL HB.out⟩
 replace c6 := Bool.eq_false_iff.mpr c6
 subst c6
 have H1 : (shelfmarkref01_GetNum.l0 kj2 l0 a1 0 1 0) = some (r1, r2, r3, r4, r5) := by rw [if_neg (show ¬ (false = true) by decide)] at H; exact H
 clear H
 have H := H1
 clear H1
 have H' := Aside0.mk H
 clear H
 go_wp2
 go_loopg [1, 5, 6, 7] kj2 (fun kq v1 v5 v6 v7 w' => ∃ (x1_2 : Int) (x5_2 : Int) (x6_2 : Int) (x7_2 : Int) (x102000_2 : Int) (x102001_2 : ByteArray) (x102003_2 : Int) (x102004_2 : Int), v1 = .int .i64 x1_2 ∧ v5 = .int .i64 x5_2 ∧ v6 = .int .i64 x6_2 ∧ v7 = .int .i64 x7_2 ∧ Aside0 (shelfmarkref01_GetNum.l0 kq l0 x1_2 x5_2 x6_2 x7_2 = some (r1, r2, r3, r4, r5)) ∧ Aside0 (kq ≤ kj2) ∧ Aside0 (w'.heap[gb101]? = some (.cells #[.int .i64 x102000_2, .string x102001_2, (.slice none 0 0), .int .i64 x102003_2, .int .i64 x102004_2] 82 (0, 0))) ∧ Aside0 (Below w.heap.size w w'))
 case atStart => exact ⟨(a1), (0), (1), (0), (0), ((⟨#[]⟩ : ByteArray)), (0), (0), (by first | rfl | (simp; done) | (simp [*]; done) | (simp [ne_nil_bytes]; done) | (simp [eq_nil_bytes]; done)), (by first | rfl | (simp; done) | (simp [*]; done) | (simp [ne_nil_bytes]; done) | (simp [eq_nil_bytes]; done)), (by first | rfl | (simp; done) | (simp [*]; done) | (simp [ne_nil_bytes]; done) | (simp [eq_nil_bytes]; done)), (by first | rfl | (simp; done) | (simp [*]; done) | (simp [ne_nil_bytes]; done) | (simp [eq_nil_bytes]; done)), H', ⟨Nat.le_refl _⟩, ⟨by exact bL BK101.out⟩, ⟨hL HB.out⟩⟩
 clear H'
 try clear p2
 try clear c4
 try clear c5
 try clear c5b0
 try clear c5b0z
 try clear c6
 try clear hcz7_0
 try clear hcz7_1
 try clear hcz7_2
 try clear hcz7_3
 try clear hcz7_4
 try clear hfz7_0
 try clear hfz7_1
 try clear hfz7_2
 try clear hfz7_3
 try clear hfz7_4
 try clear p2
 obtain ⟨x1_2, x5_2, x6_2, x7_2, x102000_2, x102001_2, x102003_2, x102004_2, rfl, rfl, rfl, rfl, HA, HK2, BK101, HB⟩ := hrel
 rcases gk with _ | k2
 ·exact absurd HA.out (by simp [shelfmarkref01_GetNum.l0])
 have H := HA.out
 clear HA
 simp only [shelfmarkref01_GetNum.l0] at H
 by_cases c8 : x7_2 < 9
 rotate_left
 ·rw [if_neg c8] at H
  have c8b0 : decide (x7_2 < 9) = false := decide_eq_false c8
  clear c8
  simp only [Option.some.injEq, Prod.mk.injEq] at H
  obtain ⟨rfl, rfl, rfl, rfl, rfl⟩ := H
  have hcz22_0 : wr.cell? ⟨gb101, 0, none⟩ = some (.int .i64 x102000_2) := (blk_cell BK101.out 0).trans rfl
  have hcz22_1 : wr.cell? ⟨gb101, 1, none⟩ = some (.string x102001_2) := (blk_cell BK101.out 1).trans rfl
  have hcz22_2 : wr.cell? ⟨gb101, 2, none⟩ = some (.slice none 0 0) := (blk_cell BK101.out 2).trans rfl
  have hcz22_3 : wr.cell? ⟨gb101, 3, none⟩ = some (.int .i64 x102003_2) := (blk_cell BK101.out 3).trans rfl
  have hcz22_4 : wr.cell? ⟨gb101, 4, none⟩ = some (.int .i64 x102004_2) := (blk_cell BK101.out 4).trans rfl
  have hfz22_0 := blk_frozen BK101.out 0
  have hfz22_1 := blk_frozen BK101.out 1
  have hfz22_2 := blk_frozen BK101.out 2
  have hfz22_3 := blk_frozen BK101.out 3
  have hfz22_4 := blk_frozen BK101.out 4
  go_wp2
  refine bodyPost_ret (results_cell_row rfl _ _ gb101 82 #[.int .i64 0, .string (⟨#[]⟩ : ByteArray), .slice none 0 0, .int .i64 0, .int .i64 3] (0, 0) _ rfl (by (with_reducible repeat (first | refine blk_drewN ?_ _ | refine blk_drew ?_ | refine blk_alloc ?_ _)); refine blk_put (cs := #[.int .i64 0, .string (⟨#[]⟩ : ByteArray), .slice none 0 0, .int .i64 0, .int .i64 x102004_2]) ?_ 4 _ rfl; (with_reducible repeat (first | refine blk_drewN ?_ _ | refine blk_drew ?_ | refine blk_alloc ?_ _)); refine blk_put (cs := #[.int .i64 0, .string (⟨#[]⟩ : ByteArray), .slice none 0 0, .int .i64 x102003_2, .int .i64 x102004_2]) ?_ 3 _ rfl; (with_reducible repeat (first | refine blk_drewN ?_ _ | refine blk_drew ?_ | refine blk_alloc ?_ _)); refine blk_put (cs := #[.int .i64 0, .string (⟨#[]⟩ : ByteArray), .slice none 0 0, .int .i64 x102003_2, .int .i64 x102004_2]) ?_ 2 _ rfl; (with_reducible repeat (first | refine blk_drewN ?_ _ | refine blk_drew ?_ | refine blk_alloc ?_ _)); refine blk_put (cs := #[.int .i64 0, .string x102001_2, .slice none 0 0, .int .i64 x102003_2, .int .i64 x102004_2]) ?_ 1 _ rfl; (with_reducible repeat (first | refine blk_drewN ?_ _ | refine blk_drew ?_ | refine blk_alloc ?_ _)); refine blk_put (cs := #[.int .i64 x102000_2, .string x102001_2, .slice none 0 0, .int .i64 x102003_2, .int .i64 x102004_2]) ?_ 0 _ rfl; exact bL BK101.out) Try.underlying82 rfl (by kernel_rfl)) rfl ?_
  exact ⟨_, by first | rfl | (simp [errW_none, errW_some] <;> rfl) | (simp [*, errW_none, errW_some] <;> rfl), by first | exact Kd.R_nil _ _ _ _ _ | exact Kd.N_nil _ _ _ _ _ | exact Kd.V_nil _ _ _ _ _ | exact Kd.Q_nil _ _ _ _ _ | exact Kd.S_nil _ _ _ _ _, hL HB.out⟩
 rw [if_pos c8] at H
 have c8b0 : decide (x7_2 < 9) = true := decide_eq_true c8
 clear c8
 by_cases c9 : x1_2 ≥ (l0.length : Int)
 ·rw [if_pos c9] at H
  have c9b0 : decide ((l0.length : Int) ≤ x1_2) = true := decide_eq_true c9
  clear c9
  simp only [Option.some.injEq, Prod.mk.injEq] at H
  obtain ⟨rfl, rfl, rfl, rfl, rfl⟩ := H
  have hcz10_0 : wr.cell? ⟨gb101, 0, none⟩ = some (.int .i64 x102000_2) := (blk_cell BK101.out 0).trans rfl
  have hcz10_1 : wr.cell? ⟨gb101, 1, none⟩ = some (.string x102001_2) := (blk_cell BK101.out 1).trans rfl
  have hcz10_2 : wr.cell? ⟨gb101, 2, none⟩ = some (.slice none 0 0) := (blk_cell BK101.out 2).trans rfl
  have hcz10_3 : wr.cell? ⟨gb101, 3, none⟩ = some (.int .i64 x102003_2) := (blk_cell BK101.out 3).trans rfl
  have hcz10_4 : wr.cell? ⟨gb101, 4, none⟩ = some (.int .i64 x102004_2) := (blk_cell BK101.out 4).trans rfl
  have hfz10_0 := blk_frozen BK101.out 0
  have hfz10_1 := blk_frozen BK101.out 1
  have hfz10_2 := blk_frozen BK101.out 2
  have hfz10_3 := blk_frozen BK101.out 3
  have hfz10_4 := blk_frozen BK101.out 4
  go_wp2
  refine bodyPost_ret (results_cell_row rfl _ _ gb101 82 #[.int .i64 0, .string (⟨#[]⟩ : ByteArray), .slice none 0 0, .int .i64 0, .int .i64 2] (0, 0) _ rfl (by (with_reducible repeat (first | refine blk_drewN ?_ _ | refine blk_drew ?_ | refine blk_alloc ?_ _)); refine blk_put (cs := #[.int .i64 0, .string (⟨#[]⟩ : ByteArray), .slice none 0 0, .int .i64 0, .int .i64 x102004_2]) ?_ 4 _ rfl; (with_reducible repeat (first | refine blk_drewN ?_ _ | refine blk_drew ?_ | refine blk_alloc ?_ _)); refine blk_put (cs := #[.int .i64 0, .string (⟨#[]⟩ : ByteArray), .slice none 0 0, .int .i64 x102003_2, .int .i64 x102004_2]) ?_ 3 _ rfl; (with_reducible repeat (first | refine blk_drewN ?_ _ | refine blk_drew ?_ | refine blk_alloc ?_ _)); refine blk_put (cs := #[.int .i64 0, .string (⟨#[]⟩ : ByteArray), .slice none 0 0, .int .i64 x102003_2, .int .i64 x102004_2]) ?_ 2 _ rfl; (with_reducible repeat (first | refine blk_drewN ?_ _ | refine blk_drew ?_ | refine blk_alloc ?_ _)); refine blk_put (cs := #[.int .i64 0, .string x102001_2, .slice none 0 0, .int .i64 x102003_2, .int .i64 x102004_2]) ?_ 1 _ rfl; (with_reducible repeat (first | refine blk_drewN ?_ _ | refine blk_drew ?_ | refine blk_alloc ?_ _)); refine blk_put (cs := #[.int .i64 x102000_2, .string x102001_2, .slice none 0 0, .int .i64 x102003_2, .int .i64 x102004_2]) ?_ 0 _ rfl; exact bL BK101.out) Try.underlying82 rfl (by kernel_rfl)) rfl ?_
  exact ⟨_, by first | rfl | (simp [errW_none, errW_some] <;> rfl) | (simp [*, errW_none, errW_some] <;> rfl), by first | exact Kd.R_nil _ _ _ _ _ | exact Kd.N_nil _ _ _ _ _ | exact Kd.V_nil _ _ _ _ _ | exact Kd.Q_nil _ _ _ _ _ | exact Kd.S_nil _ _ _ _ _, hL HB.out⟩
 rw [if_neg c9] at H
 have c9b0 : decide ((l0.length : Int) ≤ x1_2) = false := decide_eq_false c9
 clear c9
 by_cases c11 : 0 ≤ x1_2
 rotate_left
 ·rw [if_neg c11] at H
  exact absurd H (by simp)
 rw [if_pos c11] at H
 have c11b0 : decide (0 ≤ x1_2) = true := decide_eq_true c11
 clear c11
 by_cases c12 : x1_2 < (l0.length : Int)
 rotate_left
 ·rw [if_neg c12] at H
  exact absurd H (by simp)
 rw [if_pos c12] at H
 have c12b0 : decide (x1_2 < (l0.length : Int)) = true := decide_eq_true c12
 clear c12
 have HC13 := Aside0.mk H
 clear H
 have p102 : 0 ≤ (x1_2 : Int) := of_decide_eq_true (by first | (with_reducible assumption) | assumption)
 have q102 : x1_2 < (l0.length : Int) := of_decide_eq_true (by first | (with_reducible assumption) | assumption)
 obtain ⟨ad102, e102, hx102_0⟩ := Kd.at_int HR0.out x1_2 p102 q102
 cases e102
 replace hx102_0 := (HB.out.cell (World.block_lt_of_cell? w _ hx102_0)).trans hx102_0
 replace p102 := eq_true p102
 replace q102 := eq_true q102
 go_upto_region 12 with (fail)
 go_cut [47] (fun v47 wc => ∃ (kq : Nat) (x47_12 : Bool), v47 = .bool x47_12 ∧ Aside0 (shelfmarkref01_GetNum.j2 kq l0 (wrap64 (x1_2 + 1)) x5_2 x6_2 x7_2 (wrap64 (rd l0 x1_2)) x47_12 = some (r1, r2, r3, r4, r5)) ∧ Aside0 (kq ≤ k2) ∧ Aside0 (wc.heap[gb101]? = some (.cells #[.int .i64 x102000_2, .string x102001_2, (.slice none 0 0), .int .i64 x102003_2, .int .i64 x102004_2] 82 (0, 0))) ∧ Aside0 (Below w.heap.size w wc))
 case first =>
  have H := HC13.out
  clear HC13
  by_cases c14 : (wrap64 (rd l0 x1_2)) ≥ 128
  rotate_left
  ·rw [if_neg c14] at H
   have c14b0 : decide (128 ≤ (wrap64 (rd l0 x1_2))) = false := decide_eq_false c14
   clear c14
   (first | rw [c14b0] | (simp only [i64_w, i32_w]; rw [c14b0]) | skip)
   by_cases c17 : (wrap64 (rd l0 x1_2)) = 0
   rotate_left
   ·rw [if_neg c17] at H
    have c17b0 : ((wrap64 (rd l0 x1_2)) == 0) = false := beq_eq_false_iff_ne.mpr c17
    have c17b1 : ((wrap64 (rd l0 x1_2)) != 0) = true := bne_iff_ne.mpr c17
    have H' := Aside0.mk H
    clear H
    go_wp2
    go_meet
    case rel => exact ⟨_, (false), (by first | rfl | (simp; done) | (simp [*]; done) | (simp [ne_nil_bytes]; done) | (simp [eq_nil_bytes]; done)), H', ⟨by have := HJ2.out; have := HK2.out; first | omega | exact Nat.le_refl _⟩, ⟨by exact bL BK101.out⟩, ⟨hL HB.out⟩⟩
   rw [if_pos c17] at H
   have c17b0 : ((wrap64 (rd l0 x1_2)) == 0) = true := beq_iff_eq.mpr c17
   have c17b1 : ((wrap64 (rd l0 x1_2)) != 0) = false := bne_eq_false_iff_eq.mpr c17
   clear c17
   have H' := Aside0.mk H
   clear H
   go_wp2
   go_meet
   case rel => exact ⟨_, (decide (x7_2 > 0)), (by first | rfl | (simp; done) | (simp [*]; done) | (simp [ne_nil_bytes]; done) | (simp [eq_nil_bytes]; done)), H', ⟨by have := HJ2.out; have := HK2.out; first | omega | exact Nat.le_refl _⟩, ⟨by exact bL BK101.out⟩, ⟨hL HB.out⟩⟩
  rw [if_pos c14] at H
  have c14b0 : decide (128 ≤ (wrap64 (rd l0 x1_2))) = true := decide_eq_true c14
  clear c14
  (first | rw [c14b0] | (simp only [i64_w, i32_w]; rw [c14b0]) | skip)
  by_cases c15 : x7_2 = 8
  ·rw [if_pos c15] at H
   have c15b0 : (x7_2 == 8) = true := beq_iff_eq.mpr c15
   have c15b1 : (x7_2 != 8) = false := bne_eq_false_iff_eq.mpr c15
   clear c15
   have H' := Aside0.mk H
   clear H
   go_wp2
   go_meet
   case rel => exact ⟨_, (true), (by first | rfl | (simp; done) | (simp [*]; done) | (simp [ne_nil_bytes]; done) | (simp [eq_nil_bytes]; done)), H', ⟨by have := HJ2.out; have := HK2.out; first | omega | exact Nat.le_refl _⟩, ⟨by exact bL BK101.out⟩, ⟨hL HB.out⟩⟩
  rw [if_neg c15] at H
  have c15b0 : (x7_2 == 8) = false := beq_eq_false_iff_ne.mpr c15
  have c15b1 : (x7_2 != 8) = true := bne_iff_ne.mpr c15
  by_cases c16 : (wrap64 (rd l0 x1_2)) = 0
  rotate_left
  ·rw [if_neg c16] at H
   have c16b0 : ((wrap64 (rd l0 x1_2)) == 0) = false := beq_eq_false_iff_ne.mpr c16
   have c16b1 : ((wrap64 (rd l0 x1_2)) != 0) = true := bne_iff_ne.mpr c16
   have H' := Aside0.mk H
   clear H
   go_wp2
   go_meet
   case rel => exact ⟨_, (false), (by first | rfl | (simp; done) | (simp [*]; done) | (simp [ne_nil_bytes]; done) | (simp [eq_nil_bytes]; done)), H', ⟨by have := HJ2.out; have := HK2.out; first | omega | exact Nat.le_refl _⟩, ⟨by exact bL BK101.out⟩, ⟨hL HB.out⟩⟩
  rw [if_pos c16] at H
  have c16b0 : ((wrap64 (rd l0 x1_2)) == 0) = true := beq_iff_eq.mpr c16
  have c16b1 : ((wrap64 (rd l0 x1_2)) != 0) = false := bne_eq_false_iff_eq.mpr c16
  clear c16
  have H' := Aside0.mk H
  clear H
  go_wp2
  go_meet
  case rel => exact ⟨_, (decide (x7_2 > 0)), (by first | rfl | (simp; done) | (simp [*]; done) | (simp [ne_nil_bytes]; done) | (simp [eq_nil_bytes]; done)), H', ⟨by have := HJ2.out; have := HK2.out; first | omega | exact Nat.le_refl _⟩, ⟨by exact bL BK101.out⟩, ⟨hL HB.out⟩⟩
 clear HC13
 try clear c1
 try clear p1
 try clear q1
 try clear hx1
 try clear p2
 try clear c4
 try clear c5
 try clear c5b0
 try clear c5b0z
 try clear c6
 try clear p6
 try clear c8
 try clear c8b0
 try clear c8b0z
 try clear c9
 try clear c9b0
 try clear c9b0z
 try clear p10
 try clear q10
 try clear hx10
 try clear c11
 try clear c11b0
 try clear c11b0z
 try clear c12
 try clear c12b0
 try clear c12b0z
 try clear c14
 try clear c14b0
 try clear c14b0z
 try clear c15
 try clear c15b0
 try clear c15b0z
 try clear c15b1
 try clear c15b1z
 try clear c16
 try clear c16b0
 try clear c16b0z
 try clear c16b1
 try clear c16b1z
 try clear c17
 try clear c17b0
 try clear c17b0z
 try clear c17b1
 try clear c17b1z
 try clear hcz10_0
 try clear hcz10_1
 try clear hcz10_2
 try clear hcz10_3
 try clear hcz10_4
 try clear hcz7_0
 try clear hcz7_1
 try clear hcz7_2
 try clear hcz7_3
 try clear hcz7_4
 try clear hfz10_0
 try clear hfz10_1
 try clear hfz10_2
 try clear hfz10_3
 try clear hfz10_4
 try clear hfz7_0
 try clear hfz7_1
 try clear hfz7_2
 try clear hfz7_3
 try clear hfz7_4
 try clear hx102_0
 try clear p102
 try clear p2
 try clear q102
 obtain ⟨kq, x47_12, rfl, HA, HJ12, BK101, HB⟩ := hcut
 rcases kq with _ | kj12
 ·exact absurd HA.out (by simp [shelfmarkref01_GetNum.j2])
 have H := HA.out
 clear HA
 simp only [shelfmarkref01_GetNum.j2] at H
 by_cases c18 : x47_12 = true
 ·subst c18
  have H1 : (some (0, (⟨#[]⟩ : ByteArray), ([] : List ByteArray), 0, 3)) = some (r1, r2, r3, r4, r5) := by rw [if_pos rfl] at H; exact H
  clear H
  have H := H1
  clear H1
  simp only [Option.some.injEq, Prod.mk.injEq] at H
  obtain ⟨rfl, rfl, rfl, rfl, rfl⟩ := H
  have hcz19_0 : wc.cell? ⟨gb101, 0, none⟩ = some (.int .i64 x102000_2) := (blk_cell BK101.out 0).trans rfl
  have hcz19_1 : wc.cell? ⟨gb101, 1, none⟩ = some (.string x102001_2) := (blk_cell BK101.out 1).trans rfl
  have hcz19_2 : wc.cell? ⟨gb101, 2, none⟩ = some (.slice none 0 0) := (blk_cell BK101.out 2).trans rfl
  have hcz19_3 : wc.cell? ⟨gb101, 3, none⟩ = some (.int .i64 x102003_2) := (blk_cell BK101.out 3).trans rfl
  have hcz19_4 : wc.cell? ⟨gb101, 4, none⟩ = some (.int .i64 x102004_2) := (blk_cell BK101.out 4).trans rfl
  have hfz19_0 := blk_frozen BK101.out 0
  have hfz19_1 := blk_frozen BK101.out 1
  have hfz19_2 := blk_frozen BK101.out 2
  have hfz19_3 := blk_frozen BK101.out 3
  have hfz19_4 := blk_frozen BK101.out 4
  go_wp2
  refine bodyPost_ret (results_cell_row rfl _ _ gb101 82 #[.int .i64 0, .string (⟨#[]⟩ : ByteArray), .slice none 0 0, .int .i64 0, .int .i64 3] (0, 0) _ rfl (by (with_reducible repeat (first | refine blk_drewN ?_ _ | refine blk_drew ?_ | refine blk_alloc ?_ _)); refine blk_put (cs := #[.int .i64 0, .string (⟨#[]⟩ : ByteArray), .slice none 0 0, .int .i64 0, .int .i64 x102004_2]) ?_ 4 _ rfl; (with_reducible repeat (first | refine blk_drewN ?_ _ | refine blk_drew ?_ | refine blk_alloc ?_ _)); refine blk_put (cs := #[.int .i64 0, .string (⟨#[]⟩ : ByteArray), .slice none 0 0, .int .i64 x102003_2, .int .i64 x102004_2]) ?_ 3 _ rfl; (with_reducible repeat (first | refine blk_drewN ?_ _ | refine blk_drew ?_ | refine blk_alloc ?_ _)); refine blk_put (cs := #[.int .i64 0, .string (⟨#[]⟩ : ByteArray), .slice none 0 0, .int .i64 x102003_2, .int .i64 x102004_2]) ?_ 2 _ rfl; (with_reducible repeat (first | refine blk_drewN ?_ _ | refine blk_drew ?_ | refine blk_alloc ?_ _)); refine blk_put (cs := #[.int .i64 0, .string x102001_2, .slice none 0 0, .int .i64 x102003_2, .int .i64 x102004_2]) ?_ 1 _ rfl; (with_reducible repeat (first | refine blk_drewN ?_ _ | refine blk_drew ?_ | refine blk_alloc ?_ _)); refine blk_put (cs := #[.int .i64 x102000_2, .string x102001_2, .slice none 0 0, .int .i64 x102003_2, .int .i64 x102004_2]) ?_ 0 _ rfl; exact bL BK101.out) Try.underlying82 rfl (by kernel_rfl)) rfl ?_
  exact ⟨_, by first | rfl | (simp [errW_none, errW_some] <;> rfl) | (simp [*, errW_none, errW_some] <;> rfl), by first | exact Kd.R_nil _ _ _ _ _ | exact Kd.N_nil _ _ _ _ _ | exact Kd.V_nil _ _ _ _ _ | exact Kd.Q_nil _ _ _ _ _ | exact Kd.S_nil _ _ _ _ _, hL HB.out⟩
 replace c18 := Bool.eq_false_iff.mpr c18
 subst c18
 have H1 : (if (wrap64 (rd l0 x1_2)) < 128 then (some (wrap64 (x5_2 + (wrap64 ((Int.tmod (wrap64 (rd l0 x1_2)) 128) * x6_2))), (⟨#[]⟩ : ByteArray), ([] : List ByteArray), (wrap64 (x1_2 + 1)), 0)) else (shelfmarkref01_GetNum.l0 kj12 l0 (wrap64 (x1_2 + 1)) (wrap64 (x5_2 + (wrap64 ((Int.tmod (wrap64 (rd l0 x1_2)) 128) * x6_2)))) (wrap64 (x6_2 * 128)) (wrap64 (x7_2 + 1)))) = some (r1, r2, r3, r4, r5) := by rw [if_neg (show ¬ (false = true) by decide)] at H; exact H
 clear H
 have H := H1
 clear H1
 by_cases c20 : (wrap64 (rd l0 x1_2)) < 128
 rotate_left
 ·rw [if_neg c20] at H
  have c20b0 : decide ((wrap64 (rd l0 x1_2)) < 128) = false := decide_eq_false c20
  clear c20
  have H' := Aside0.mk H
  clear H
  go_wp2
  go_roundg kj12
  case measure => have := HJ2.out; have := HK2.out; have := HJ12.out; omega
  case rel => exact ⟨((wrap64 (x1_2 + 1))), (wrap64 (x5_2 + (wrap64 ((Int.tmod (wrap64 (rd l0 x1_2)) 128) * x6_2)))), (wrap64 (x6_2 * 128)), (wrap64 (x7_2 + 1)), (x102000_2), (x102001_2), (x102003_2), (x102004_2), (by first | rfl | (simp; done) | (simp [*]; done) | (simp [ne_nil_bytes]; done) | (simp [eq_nil_bytes]; done)), (by first | rfl | (simp; done) | (simp [*]; done) | (simp [ne_nil_bytes]; done) | (simp [eq_nil_bytes]; done)), (by first | rfl | (simp; done) | (simp [*]; done) | (simp [ne_nil_bytes]; done) | (simp [eq_nil_bytes]; done)), (by first | rfl | (simp; done) | (simp [*]; done) | (simp [ne_nil_bytes]; done) | (simp [eq_nil_bytes]; done)), H', ⟨by have := HJ2.out; have := HK2.out; have := HJ12.out; omega⟩, ⟨by exact bL BK101.out⟩, ⟨hL HB.out⟩⟩
 rw [if_pos c20] at H
 have c20b0 : decide ((wrap64 (rd l0 x1_2)) < 128) = true := decide_eq_true c20
 clear c20
 simp only [Option.some.injEq, Prod.mk.injEq] at H
 obtain ⟨rfl, rfl, rfl, rfl, rfl⟩ := H
 have hcz21_0 : wc.cell? ⟨gb101, 0, none⟩ = some (.int .i64 x102000_2) := (blk_cell BK101.out 0).trans rfl
 have hcz21_1 : wc.cell? ⟨gb101, 1, none⟩ = some (.string x102001_2) := (blk_cell BK101.out 1).trans rfl
 have hcz21_2 : wc.cell? ⟨gb101, 2, none⟩ = some (.slice none 0 0) := (blk_cell BK101.out 2).trans rfl
 have hcz21_3 : wc.cell? ⟨gb101, 3, none⟩ = some (.int .i64 x102003_2) := (blk_cell BK101.out 3).trans rfl
 have hcz21_4 : wc.cell? ⟨gb101, 4, none⟩ = some (.int .i64 x102004_2) := (blk_cell BK101.out 4).trans rfl
 have hfz21_0 := blk_frozen BK101.out 0
 have hfz21_1 := blk_frozen BK101.out 1
 have hfz21_2 := blk_frozen BK101.out 2
 have hfz21_3 := blk_frozen BK101.out 3
 have hfz21_4 := blk_frozen BK101.out 4
 go_wp2
 refine bodyPost_ret (results_cell_row rfl _ _ gb101 82 #[.int .i64 (wrap64 (x5_2 + (wrap64 ((Int.tmod (wrap64 (rd l0 x1_2)) 128) * x6_2)))), .string (⟨#[]⟩ : ByteArray), .slice none 0 0, .int .i64 (wrap64 (x1_2 + 1)), .int .i64 0] (0, 0) _ rfl (by (with_reducible repeat (first | refine blk_drewN ?_ _ | refine blk_drew ?_ | refine blk_alloc ?_ _)); refine blk_put (cs := #[.int .i64 (wrap64 (x5_2 + (wrap64 ((Int.tmod (wrap64 (rd l0 x1_2)) 128) * x6_2)))), .string (⟨#[]⟩ : ByteArray), .slice none 0 0, .int .i64 (wrap64 (x1_2 + 1)), .int .i64 x102004_2]) ?_ 4 _ rfl; (with_reducible repeat (first | refine blk_drewN ?_ _ | refine blk_drew ?_ | refine blk_alloc ?_ _)); refine blk_put (cs := #[.int .i64 (wrap64 (x5_2 + (wrap64 ((Int.tmod (wrap64 (rd l0 x1_2)) 128) * x6_2)))), .string (⟨#[]⟩ : ByteArray), .slice none 0 0, .int .i64 x102003_2, .int .i64 x102004_2]) ?_ 3 _ rfl; (with_reducible repeat (first | refine blk_drewN ?_ _ | refine blk_drew ?_ | refine blk_alloc ?_ _)); refine blk_put (cs := #[.int .i64 (wrap64 (x5_2 + (wrap64 ((Int.tmod (wrap64 (rd l0 x1_2)) 128) * x6_2)))), .string (⟨#[]⟩ : ByteArray), .slice none 0 0, .int .i64 x102003_2, .int .i64 x102004_2]) ?_ 2 _ rfl; (with_reducible repeat (first | refine blk_drewN ?_ _ | refine blk_drew ?_ | refine blk_alloc ?_ _)); refine blk_put (cs := #[.int .i64 (wrap64 (x5_2 + (wrap64 ((Int.tmod (wrap64 (rd l0 x1_2)) 128) * x6_2)))), .string x102001_2, .slice none 0 0, .int .i64 x102003_2, .int .i64 x102004_2]) ?_ 1 _ rfl; (with_reducible repeat (first | refine blk_drewN ?_ _ | refine blk_drew ?_ | refine blk_alloc ?_ _)); refine blk_put (cs := #[.int .i64 x102000_2, .string x102001_2, .slice none 0 0, .int .i64 x102003_2, .int .i64 x102004_2]) ?_ 0 _ rfl; exact bL BK101.out) Try.underlying82 rfl (by kernel_rfl)) rfl ?_
 exact ⟨_, by first | rfl | (simp [errW_none, errW_some] <;> rfl) | (simp [*, errW_none, errW_some] <;> rfl), by first | exact Kd.R_nil _ _ _ _ _ | exact Kd.N_nil _ _ _ _ _ | exact Kd.V_nil _ _ _ _ _ | exact Kd.Q_nil _ _ _ _ _ | exact Kd.S_nil _ _ _ _ _, hL HB.out⟩

end Go.Proofs.Ythghacojbhjeaaa.PKp
