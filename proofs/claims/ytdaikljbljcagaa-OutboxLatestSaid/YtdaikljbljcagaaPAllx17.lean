-- Written by a program of this session for this claim (mp.py, over the kit's print); Lean checks it.
import Derived.Test.YtdaikljbljcagaaPAllx0
namespace Go.Proofs.Ytdaikljbljcagaa.PAll
open Go.RowKit Go.Proofs.YtdaikljbljcagaaW.PrintWords Go.Proofs.YtdaikljbljcagaaW.PrintLast Go.Proofs.YtdaikljbljcagaaW.PrintMore Go.Proofs.Ytdaikljbljcagaa.Fv Go.Proofs.Ytdaikljbljcagaa.Hl
attribute [local go_sem] max2_int min2_int max_two min_two max_three min_three max_four min_four str_gtr str_leq str_geq cell_set2   -- for this text's walks alone
set_option linter.unusedVariables false
set_option linter.unusedSimpArgs false

/-! ### shelfmarkref18_Latest: function 11 -/
mutual
def shelfmarkref18_Latest.l0 : Nat → List (S29) → List (S29) → Int → Option ((List (S29)))
 | 0, _, _, _ => none
 | k + 1, x0, x3, x4 => if x4 < (x0.length : Int) then (shelfmarkref18_Latest.l1 k x0 x3 x4 0) else (some x3)
def shelfmarkref18_Latest.j2 : Nat → List (S29) → List (S29) → Int → Int → Option ((List (S29)))
 | 0, _, _, _, _ => none
 | k + 1, x0, x3, x4, x5 => if x5 < (x3.length : Int) then (if 0 ≤ x5 then (if 0 ≤ x4 then (if x4 < (x0.length : Int) then (shelfmarkref18_Latest.j3 k x0 x3 x4 x5 (((rd_T29 x3 x5).f0).toList == ((rd_T29 x0 x4).f0).toList)) else (none)) else (none)) else (none)) else (shelfmarkref18_Latest.j3 k x0 x3 x4 x5 false)
def shelfmarkref18_Latest.j3 : Nat → List (S29) → List (S29) → Int → Int → Bool → Option ((List (S29)))
 | 0, _, _, _, _, _ => none
 | k + 1, x0, x3, x4, x5, x48 => if x48 = true then (if 0 ≤ x4 then (if x4 < (x0.length : Int) then (if 0 ≤ x5 then (if x5 < (x3.length : Int) then (if ((rd_T29 x0 x4).f1) ≥ ((rd_T29 x3 x5).f1) then (shelfmarkref18_Latest.l0 k x0 (x3.set (x5 : Int).toNat (⟨(rd_T29 x0 x4).f0, (rd_T29 x0 x4).f1, (rd_T29 x0 x4).f2⟩ : S29)) (wrap64 (x4 + 1))) else (shelfmarkref18_Latest.l0 k x0 x3 (wrap64 (x4 + 1)))) else (none)) else (none)) else (none)) else (none)) else (if 0 ≤ x5 then (if x5 ≤ (x3.length : Int) then ((some (x3.take (x5 : Int).toNat : List (S29))).bind fun y239 => (if ([] : List (S29)).length + y239.length < 4398046511104 then ((some (([] : List (S29)) ++ y239 : List (S29))).bind fun y243 => (if 0 ≤ x4 then (if x4 < (x0.length : Int) then (if y243.length < 4398046511104 then ((some (y243 ++ [(⟨(rd_T29 x0 x4).f0, (rd_T29 x0 x4).f1, (rd_T29 x0 x4).f2⟩ : S29)] : List (S29))).bind fun y247 => ((some (x3.drop (x5 : Int).toNat : List (S29))).bind fun y250 => (if y247.length + y250.length < 4398046511104 then (shelfmarkref18_Latest.l0 k x0 (y247 ++ y250) (wrap64 (x4 + 1))) else (none)))) else (none)) else (none)) else (none))) else (none))) else (none)) else (none))
def shelfmarkref18_Latest.l1 : Nat → List (S29) → List (S29) → Int → Int → Option ((List (S29)))
 | 0, _, _, _, _ => none
 | k + 1, x0, x3, x4, x5 => if x5 < (x3.length : Int) then (if 0 ≤ x5 then (if 0 ≤ x4 then (if x4 < (x0.length : Int) then (if (Op.bytesLess (((rd_T29 x3 x5).f0).toList) (((rd_T29 x0 x4).f0).toList)) = true then (shelfmarkref18_Latest.l1 k x0 x3 x4 (wrap64 (x5 + 1))) else (shelfmarkref18_Latest.j2 k x0 x3 x4 x5)) else (none)) else (none)) else (none)) else (shelfmarkref18_Latest.j2 k x0 x3 x4 x5)
end
def shelfmarkref18_Latest.f (k : Nat) (l0 : List (S29)) : Option ((List (S29))) := shelfmarkref18_Latest.l0 k l0 ([] : List (S29)) 0
theorem shelfmarkref18_Latest.mono_l : ∀ k, (∀ y0 y1 y2, LeO (shelfmarkref18_Latest.l0 k y0 y1 y2) (shelfmarkref18_Latest.l0 (k + 1) y0 y1 y2)) ∧ (∀ y0 y1 y2 y3, LeO (shelfmarkref18_Latest.j2 k y0 y1 y2 y3) (shelfmarkref18_Latest.j2 (k + 1) y0 y1 y2 y3)) ∧ (∀ y0 y1 y2 y3 y4, LeO (shelfmarkref18_Latest.j3 k y0 y1 y2 y3 y4) (shelfmarkref18_Latest.j3 (k + 1) y0 y1 y2 y3 y4)) ∧ (∀ y0 y1 y2 y3, LeO (shelfmarkref18_Latest.l1 k y0 y1 y2 y3) (shelfmarkref18_Latest.l1 (k + 1) y0 y1 y2 y3))
 | 0 => ⟨fun _ _ _ r h => by simp [shelfmarkref18_Latest.l0] at h, fun _ _ _ _ r h => by simp [shelfmarkref18_Latest.j2] at h, fun _ _ _ _ _ r h => by simp [shelfmarkref18_Latest.j3] at h, fun _ _ _ _ r h => by simp [shelfmarkref18_Latest.l1] at h⟩
 | k + 1 => by
  obtain ⟨ih0, ih1, ih2, ih3⟩ := shelfmarkref18_Latest.mono_l k
  refine ⟨?_, ?_, ?_, ?_⟩
  ·intro y0 y1 y2
   unfold shelfmarkref18_Latest.l0
   repeat' first
   | (with_reducible exact ih0 _ _ _)
   | (with_reducible exact ih1 _ _ _ _)
   | (with_reducible exact ih2 _ _ _ _ _)
   | (with_reducible exact ih3 _ _ _ _)
   | (with_reducible exact LeO.refl _)
   | (with_reducible exact LeO.none _)
   | (with_reducible refine LeO.ite ?_ ?_)
   | (with_reducible refine LeO.bind ?_ (fun _ => ?_))
   | exact ih0 _ _ _
   | exact ih1 _ _ _ _
   | exact ih2 _ _ _ _ _
   | exact ih3 _ _ _ _
   | exact LeO.none _
   | refine LeO.ite ?_ ?_
   | refine LeO.bind ?_ (fun _ => ?_)
  ·intro y0 y1 y2 y3
   unfold shelfmarkref18_Latest.j2
   repeat' first
   | (with_reducible exact ih0 _ _ _)
   | (with_reducible exact ih1 _ _ _ _)
   | (with_reducible exact ih2 _ _ _ _ _)
   | (with_reducible exact ih3 _ _ _ _)
   | (with_reducible exact LeO.refl _)
   | (with_reducible exact LeO.none _)
   | (with_reducible refine LeO.ite ?_ ?_)
   | (with_reducible refine LeO.bind ?_ (fun _ => ?_))
   | exact ih0 _ _ _
   | exact ih1 _ _ _ _
   | exact ih2 _ _ _ _ _
   | exact ih3 _ _ _ _
   | exact LeO.none _
   | refine LeO.ite ?_ ?_
   | refine LeO.bind ?_ (fun _ => ?_)
  ·intro y0 y1 y2 y3 y4
   unfold shelfmarkref18_Latest.j3
   repeat' first
   | (with_reducible exact ih0 _ _ _)
   | (with_reducible exact ih1 _ _ _ _)
   | (with_reducible exact ih2 _ _ _ _ _)
   | (with_reducible exact ih3 _ _ _ _)
   | (with_reducible exact LeO.refl _)
   | (with_reducible exact LeO.none _)
   | (with_reducible refine LeO.ite ?_ ?_)
   | (with_reducible refine LeO.bind ?_ (fun _ => ?_))
   | exact ih0 _ _ _
   | exact ih1 _ _ _ _
   | exact ih2 _ _ _ _ _
   | exact ih3 _ _ _ _
   | exact LeO.none _
   | refine LeO.ite ?_ ?_
   | refine LeO.bind ?_ (fun _ => ?_)
  ·intro y0 y1 y2 y3
   unfold shelfmarkref18_Latest.l1
   repeat' first
   | (with_reducible exact ih0 _ _ _)
   | (with_reducible exact ih1 _ _ _ _)
   | (with_reducible exact ih2 _ _ _ _ _)
   | (with_reducible exact ih3 _ _ _ _)
   | (with_reducible exact LeO.refl _)
   | (with_reducible exact LeO.none _)
   | (with_reducible refine LeO.ite ?_ ?_)
   | (with_reducible refine LeO.bind ?_ (fun _ => ?_))
   | exact ih0 _ _ _
   | exact ih1 _ _ _ _
   | exact ih2 _ _ _ _ _
   | exact ih3 _ _ _ _
   | exact LeO.none _
   | refine LeO.ite ?_ ?_
   | refine LeO.bind ?_ (fun _ => ?_)
theorem shelfmarkref18_Latest.mono : ∀ a0 k, LeO (shelfmarkref18_Latest.f k a0) (shelfmarkref18_Latest.f (k + 1) a0) := by
 intro a0 k
 obtain ⟨ih0, ih1, ih2, ih3⟩ := shelfmarkref18_Latest.mono_l k
 unfold shelfmarkref18_Latest.f
 repeat' first
   | (with_reducible exact ih0 _ _ _)
   | (with_reducible exact ih1 _ _ _ _)
   | (with_reducible exact ih2 _ _ _ _ _)
   | (with_reducible exact ih3 _ _ _ _)
   | (with_reducible exact LeO.refl _)
   | (with_reducible exact LeO.none _)
   | (with_reducible refine LeO.ite ?_ ?_)
   | (with_reducible refine LeO.bind ?_ (fun _ => ?_))
   | exact ih0 _ _ _
   | exact ih1 _ _ _ _
   | exact ih2 _ _ _ _ _
   | exact ih3 _ _ _ _
   | exact LeO.none _
   | refine LeO.ite ?_ ?_
   | refine LeO.bind ?_ (fun _ => ?_)
set_option maxHeartbeats 8000000 in
set_option maxRecDepth 100000 in
theorem shelfmarkref18_Latest.calls (k : Nat) (A0 : Option Addr) (c0 : Nat) (l0 : List (S29)) (r : List (S29)) (w : World) (hr0 : Kd.C k29 w A0 l0.length l0) (hc0 : l0.length ≤ c0) (h : shelfmarkref18_Latest.f k l0 = some r) :
  Calls Try.prog 11 #[.slice A0 l0.length c0] w fun e w' => ∃ v0_ : Value, e = .returned (v0_) ∧ Kd.R k29 29 w' w.heap.size (fun _ => True) v0_ r ∧ Below w.heap.size w w' := by
 have hu29 := Try.underlying29
 have HR0 := Aside0.mk hr0
 have HC0 := Aside0.mk hc0
 clear hr0 hc0
 have HB := Aside0.mk (Below.refl w.heap.size w)
 have H : (shelfmarkref18_Latest.l0 k l0 ([] : List (S29)) 0) = some r := h
 clear h
 have H' := Aside0.mk H
 clear H
 go_enter Try.func11, Try.ntmps11
 go_wp2
 repeat (go_quiet (fail); try go_wp2)
 go_loopg [3, 4] k (fun kq v3 v4 w' => ∃ (x3_1 : List (S29)) (x4_1 : Int), v4 = .int .i64 x4_1 ∧ Aside0 (shelfmarkref18_Latest.l0 kq l0 x3_1 x4_1 = some r) ∧ Aside0 (kq ≤ k) ∧ Aside0 (Kd.R k29 29 w' w.heap.size (fun _ => True) v3 x3_1) ∧ Aside0 (Below w.heap.size w w'))
 case atStart => exact ⟨(([] : List (S29))), (0), (by first | rfl | (simp; done) | (simp [*]; done) | (simp [ne_nil_bytes]; done) | (simp [eq_nil_bytes]; done)), H', ⟨Nat.le_refl _⟩, ⟨by first | exact Kd.R_nil _ _ _ _ _ | exact Kd.N_nil _ _ _ _ _ | exact Kd.V_nil _ _ _ _ _ | exact Kd.Q_nil _ _ _ _ _ | exact Kd.S_nil _ _ _ _ _⟩, ⟨hL HB.out⟩⟩
 clear H'
 try clear c1
 obtain ⟨x3_1, x4_1, rfl, HA, HK1, HO_3, HB⟩ := hrel
 rcases gk with _ | k1
 ·exact absurd HA.out (by simp [shelfmarkref18_Latest.l0])
 have H := HA.out
 clear HA
 simp only [shelfmarkref18_Latest.l0] at H
 by_cases c2 : x4_1 < (l0.length : Int)
 rotate_left
 ·rw [if_neg c2] at H
  have c2b0 : decide (x4_1 < (l0.length : Int)) = false := decide_eq_false c2
  clear c2
  obtain rfl := Option.some.inj H
  simp only [Option.some.injEq, Prod.mk.injEq] at H
  obtain ⟨rfl⟩ := H
  go_wp2
  repeat (go_quiet (fail); try go_wp2)
  go_ret
  exact ⟨_, by first | rfl | (simp [errW_none, errW_some] <;> rfl) | (simp [*, errW_none, errW_some] <;> rfl), by exact rL HO_3.out, hL HB.out⟩
 rw [if_pos c2] at H
 have c2b0 : decide (x4_1 < (l0.length : Int)) = true := decide_eq_true c2
 clear c2
 have HC3 := Aside0.mk H
 clear H
 go_upto_block 2 with (fail)
 repeat (go_quiet (fail); go_upto_block 2 with (fail))
 go_cut [5] (fun v5 wc => ∃ (kq : Nat) (x5_2 : Int), v5 = .int .i64 x5_2 ∧ Aside0 (shelfmarkref18_Latest.j2 kq l0 x3_1 x4_1 x5_2 = some r) ∧ Aside0 (kq ≤ k1) ∧ Aside0 (Kd.R k29 29 wc w.heap.size (fun _ => True) u3 x3_1) ∧ Aside0 (Below w.heap.size w wc))
 case first =>
  have H := HC3.out
  clear HC3
  have H' := Aside0.mk H
  clear H
  go_wp2
  repeat (go_quiet (fail); try go_wp2)
  go_loopg [5] k1 (fun kq v5 w' => ∃ (x5_2 : Int), v5 = .int .i64 x5_2 ∧ Aside0 (shelfmarkref18_Latest.l1 kq l0 x3_1 x4_1 x5_2 = some r) ∧ Aside0 (kq ≤ k1) ∧ Aside0 (Kd.R k29 29 w' w.heap.size (fun _ => True) u3 x3_1) ∧ Aside0 (Below w.heap.size w w'))
  case atStart => exact ⟨(0), (by first | rfl | (simp; done) | (simp [*]; done) | (simp [ne_nil_bytes]; done) | (simp [eq_nil_bytes]; done)), H', ⟨Nat.le_refl _⟩, ⟨by exact rL HO_3.out⟩, ⟨hL HB.out⟩⟩
  clear H'
  try clear c1
  try clear c2
  try clear c2b0
  try clear c2b0z
  try clear p2
  obtain ⟨x5_2, rfl, HA, HK2, HO_3, HB⟩ := hrel
  rcases gk with _ | k2
  ·exact absurd HA.out (by simp [shelfmarkref18_Latest.l1])
  have H := HA.out
  clear HA
  simp only [shelfmarkref18_Latest.l1] at H
  by_cases c4 : x5_2 < (x3_1.length : Int)
  rotate_left
  ·rw [if_neg c4] at H
   have c4b0 : decide (x5_2 < (x3_1.length : Int)) = false := decide_eq_false c4
   clear c4
   (first | rw [c4b0] | (simp only [i64_w, i32_w]; rw [c4b0]) | skip)
   have H' := Aside0.mk H
   clear H
   obtain ⟨Ao11, co11, eo11⟩ := Kd.R_slice HO_3.out
   subst eo11
   go_wp2
   repeat (go_quiet (fail); try go_wp2)
   go_meet
   case rel => exact ⟨_, (x5_2), (by first | rfl | (simp; done) | (simp [*]; done) | (simp [ne_nil_bytes]; done) | (simp [eq_nil_bytes]; done)), H', ⟨by have := HK1.out; have := HK2.out; first | omega | exact Nat.le_refl _⟩, ⟨by exact rL HO_3.out⟩, ⟨hL HB.out⟩⟩
  rw [if_pos c4] at H
  have c4b0 : decide (x5_2 < (x3_1.length : Int)) = true := decide_eq_true c4
  clear c4
  (first | rw [c4b0] | (simp only [i64_w, i32_w]; rw [c4b0]) | skip)
  by_cases c5 : 0 ≤ x5_2
  rotate_left
  ·rw [if_neg c5] at H
   exact absurd H (by simp)
  rw [if_pos c5] at H
  have c5b0 : decide (0 ≤ x5_2) = true := decide_eq_true c5
  clear c5
  by_cases c6 : 0 ≤ x4_1
  rotate_left
  ·rw [if_neg c6] at H
   exact absurd H (by simp)
  rw [if_pos c6] at H
  have c6b0 : decide (0 ≤ x4_1) = true := decide_eq_true c6
  clear c6
  by_cases c7 : x4_1 < (l0.length : Int)
  rotate_left
  ·rw [if_neg c7] at H
   exact absurd H (by simp)
  rw [if_pos c7] at H
  have c7b0 : decide (x4_1 < (l0.length : Int)) = true := decide_eq_true c7
  clear c7
  by_cases c8 : (Op.bytesLess (((rd_T29 x3_1 x5_2).f0).toList) (((rd_T29 l0 x4_1).f0).toList)) = true
  rotate_left
  ·rw [if_neg c8] at H
   have c8b0 : (Op.bytesLess (((rd_T29 x3_1 x5_2).f0).toList) (((rd_T29 l0 x4_1).f0).toList)) = false := by simpa using c8
   clear c8
   have H' := Aside0.mk H
   clear H
   obtain ⟨Ao10, co10, eo10⟩ := Kd.R_slice HO_3.out
   subst eo10
   have p231 : 0 ≤ (x5_2 : Int) := of_decide_eq_true (by first | (with_reducible assumption) | assumption)
   have q231 : x5_2 < (x3_1.length : Int) := of_decide_eq_true (by first | (with_reducible assumption) | assumption)
   obtain ⟨ad231, e231, hx231_0, hx231_1, hx231_2⟩ := at_T29 (Kd.R_reads' HO_3.out).2.2 x5_2 p231 q231
   cases e231
   replace p231 := eq_true p231
   replace q231 := eq_true q231
   have p232 : 0 ≤ (x4_1 : Int) := of_decide_eq_true (by first | (with_reducible assumption) | assumption)
   have q232 : x4_1 < (l0.length : Int) := of_decide_eq_true (by first | (with_reducible assumption) | assumption)
   obtain ⟨ad232, e232, hx232_0, hx232_1, hx232_2⟩ := at_T29 HR0.out x4_1 p232 q232
   cases e232
   replace hx232_0 := (HB.out.cell (World.block_lt_of_cell? w _ hx232_0)).trans hx232_0
   replace hx232_1 := (HB.out.cell (World.block_lt_of_cell? w _ hx232_1)).trans hx232_1
   replace hx232_2 := (HB.out.cell (World.block_lt_of_cell? w _ hx232_2)).trans hx232_2
   replace p232 := eq_true p232
   replace q232 := eq_true q232
   go_wp2
   repeat (go_quiet (fail); try go_wp2)
   go_meet
   case rel => exact ⟨_, (x5_2), (by first | rfl | (simp; done) | (simp [*]; done) | (simp [ne_nil_bytes]; done) | (simp [eq_nil_bytes]; done)), H', ⟨by have := HK1.out; have := HK2.out; first | omega | exact Nat.le_refl _⟩, ⟨by exact rL HO_3.out⟩, ⟨hL HB.out⟩⟩
  rw [if_pos c8] at H
  have c8b0 : (Op.bytesLess (((rd_T29 x3_1 x5_2).f0).toList) (((rd_T29 l0 x4_1).f0).toList)) = true := c8
  clear c8
  have H' := Aside0.mk H
  clear H
  obtain ⟨Ao9, co9, eo9⟩ := Kd.R_slice HO_3.out
  subst eo9
  have p231 : 0 ≤ (x5_2 : Int) := of_decide_eq_true (by first | (with_reducible assumption) | assumption)
  have q231 : x5_2 < (x3_1.length : Int) := of_decide_eq_true (by first | (with_reducible assumption) | assumption)
  obtain ⟨ad231, e231, hx231_0, hx231_1, hx231_2⟩ := at_T29 (Kd.R_reads' HO_3.out).2.2 x5_2 p231 q231
  cases e231
  replace p231 := eq_true p231
  replace q231 := eq_true q231
  have p232 : 0 ≤ (x4_1 : Int) := of_decide_eq_true (by first | (with_reducible assumption) | assumption)
  have q232 : x4_1 < (l0.length : Int) := of_decide_eq_true (by first | (with_reducible assumption) | assumption)
  obtain ⟨ad232, e232, hx232_0, hx232_1, hx232_2⟩ := at_T29 HR0.out x4_1 p232 q232
  cases e232
  replace hx232_0 := (HB.out.cell (World.block_lt_of_cell? w _ hx232_0)).trans hx232_0
  replace hx232_1 := (HB.out.cell (World.block_lt_of_cell? w _ hx232_1)).trans hx232_1
  replace hx232_2 := (HB.out.cell (World.block_lt_of_cell? w _ hx232_2)).trans hx232_2
  replace p232 := eq_true p232
  replace q232 := eq_true q232
  go_wp2
  repeat (go_quiet (fail); try go_wp2)
  go_roundg k2
  case measure => have := HK1.out; have := HK2.out; omega
  case rel => exact ⟨(wrap64 (x5_2 + 1)), (by first | rfl | (simp; done) | (simp [*]; done) | (simp [ne_nil_bytes]; done) | (simp [eq_nil_bytes]; done)), H', ⟨by have := HK1.out; have := HK2.out; omega⟩, ⟨by exact rL HO_3.out⟩, ⟨hL HB.out⟩⟩
 clear HC3
 try clear c1
 try clear c2
 try clear c2b0
 try clear c2b0z
 try clear p2
 try clear q2
 try clear hx2
 try clear c4
 try clear c4b0
 try clear c4b0z
 try clear c5
 try clear c5b0
 try clear c5b0z
 try clear c6
 try clear c6b0
 try clear c6b0z
 try clear p6
 try clear c7
 try clear c7b0
 try clear c7b0z
 try clear c8
 try clear c8b0
 try clear c8b0z
 try clear c11
 try clear hx231_0
 try clear hx231_1
 try clear hx231_2
 try clear hx232_0
 try clear hx232_1
 try clear hx232_2
 try clear p2
 try clear p231
 try clear p232
 try clear q231
 try clear q232
 obtain ⟨kq, x5_2, rfl, HA, HJ2, HO_3, HB⟩ := hcut
 rcases kq with _ | kj2
 ·exact absurd HA.out (by simp [shelfmarkref18_Latest.j2])
 have H := HA.out
 clear HA
 simp only [shelfmarkref18_Latest.j2] at H
 have HC12 := Aside0.mk H
 clear H
 go_upto_region 8 with (fail)
 repeat (go_quiet (fail); go_upto_region 8 with (fail))
 go_cut [48] (fun v48 wc => ∃ (kq : Nat) (x48_11 : Bool), v48 = .bool x48_11 ∧ Aside0 (shelfmarkref18_Latest.j3 kq l0 x3_1 x4_1 x5_2 x48_11 = some r) ∧ Aside0 (kq ≤ kj2) ∧ Aside0 (Kd.R k29 29 wc w.heap.size (fun _ => True) u3 x3_1) ∧ Aside0 (Below w.heap.size w wc))
 case first =>
  have H := HC12.out
  clear HC12
  by_cases c13 : x5_2 < (x3_1.length : Int)
  rotate_left
  ·rw [if_neg c13] at H
   have c13b0 : decide (x5_2 < (x3_1.length : Int)) = false := decide_eq_false c13
   clear c13
   (first | rw [c13b0] | (simp only [i64_w, i32_w]; rw [c13b0]) | skip)
   have H' := Aside0.mk H
   clear H
   obtain ⟨Ao18, co18, eo18⟩ := Kd.R_slice HO_3.out
   subst eo18
   go_wp2
   repeat (go_quiet (fail); try go_wp2)
   go_meet
   case rel => exact ⟨_, (false), (by first | rfl | (simp; done) | (simp [*]; done) | (simp [ne_nil_bytes]; done) | (simp [eq_nil_bytes]; done)), H', ⟨by have := HK1.out; have := HJ2.out; first | omega | exact Nat.le_refl _⟩, ⟨by exact rL HO_3.out⟩, ⟨hL HB.out⟩⟩
  rw [if_pos c13] at H
  have c13b0 : decide (x5_2 < (x3_1.length : Int)) = true := decide_eq_true c13
  clear c13
  (first | rw [c13b0] | (simp only [i64_w, i32_w]; rw [c13b0]) | skip)
  by_cases c14 : 0 ≤ x5_2
  rotate_left
  ·rw [if_neg c14] at H
   exact absurd H (by simp)
  rw [if_pos c14] at H
  have c14b0 : decide (0 ≤ x5_2) = true := decide_eq_true c14
  clear c14
  by_cases c15 : 0 ≤ x4_1
  rotate_left
  ·rw [if_neg c15] at H
   exact absurd H (by simp)
  rw [if_pos c15] at H
  have c15b0 : decide (0 ≤ x4_1) = true := decide_eq_true c15
  clear c15
  by_cases c16 : x4_1 < (l0.length : Int)
  rotate_left
  ·rw [if_neg c16] at H
   exact absurd H (by simp)
  rw [if_pos c16] at H
  have c16b0 : decide (x4_1 < (l0.length : Int)) = true := decide_eq_true c16
  clear c16
  have H' := Aside0.mk H
  clear H
  obtain ⟨Ao17, co17, eo17⟩ := Kd.R_slice HO_3.out
  subst eo17
  have p233 : 0 ≤ (x5_2 : Int) := of_decide_eq_true (by first | (with_reducible assumption) | assumption)
  have q233 : x5_2 < (x3_1.length : Int) := of_decide_eq_true (by first | (with_reducible assumption) | assumption)
  obtain ⟨ad233, e233, hx233_0, hx233_1, hx233_2⟩ := at_T29 (Kd.R_reads' HO_3.out).2.2 x5_2 p233 q233
  cases e233
  replace p233 := eq_true p233
  replace q233 := eq_true q233
  have p234 : 0 ≤ (x4_1 : Int) := of_decide_eq_true (by first | (with_reducible assumption) | assumption)
  have q234 : x4_1 < (l0.length : Int) := of_decide_eq_true (by first | (with_reducible assumption) | assumption)
  obtain ⟨ad234, e234, hx234_0, hx234_1, hx234_2⟩ := at_T29 HR0.out x4_1 p234 q234
  cases e234
  replace hx234_0 := (HB.out.cell (World.block_lt_of_cell? w _ hx234_0)).trans hx234_0
  replace hx234_1 := (HB.out.cell (World.block_lt_of_cell? w _ hx234_1)).trans hx234_1
  replace hx234_2 := (HB.out.cell (World.block_lt_of_cell? w _ hx234_2)).trans hx234_2
  replace p234 := eq_true p234
  replace q234 := eq_true q234
  go_wp2
  repeat (go_quiet (fail); try go_wp2)
  go_meet
  case rel => exact ⟨_, ((((rd_T29 x3_1 x5_2).f0).toList == ((rd_T29 l0 x4_1).f0).toList)), (by first | rfl | (simp; done) | (simp [*]; done) | (simp [ne_nil_bytes]; done) | (simp [eq_nil_bytes]; done)), H', ⟨by have := HK1.out; have := HJ2.out; first | omega | exact Nat.le_refl _⟩, ⟨by exact rL HO_3.out⟩, ⟨hL HB.out⟩⟩
 clear HC12
 try clear c1
 try clear c2
 try clear c2b0
 try clear c2b0z
 try clear p2
 try clear q2
 try clear hx2
 try clear c4
 try clear c4b0
 try clear c4b0z
 try clear c5
 try clear c5b0
 try clear c5b0z
 try clear c6
 try clear c6b0
 try clear c6b0z
 try clear p6
 try clear c7
 try clear c7b0
 try clear c7b0z
 try clear c8
 try clear c8b0
 try clear c8b0z
 try clear c11
 try clear c13
 try clear c13b0
 try clear c13b0z
 try clear c14
 try clear c14b0
 try clear c14b0z
 try clear c15
 try clear c15b0
 try clear c15b0z
 try clear c16
 try clear c16b0
 try clear c16b0z
 try clear hx231_0
 try clear hx231_1
 try clear hx231_2
 try clear hx232_0
 try clear hx232_1
 try clear hx232_2
 try clear hx233_0
 try clear hx233_1
 try clear hx233_2
 try clear hx234_0
 try clear hx234_1
 try clear hx234_2
 try clear p2
 try clear p231
 try clear p232
 try clear p233
 try clear p234
 try clear p6
 try clear q2
 try clear q231
 try clear q232
 try clear q233
 try clear q234
 obtain ⟨kq, x48_11, rfl, HA, HJ11, HO_3, HB⟩ := hcut
 rcases kq with _ | kj11
 ·exact absurd HA.out (by simp [shelfmarkref18_Latest.j3])
 have H := HA.out
 clear HA
 simp only [shelfmarkref18_Latest.j3] at H
 by_cases c19 : x48_11 = true
 ·subst c19
  have H1 : (if 0 ≤ x4_1 then (if x4_1 < (l0.length : Int) then (if 0 ≤ x5_2 then (if x5_2 < (x3_1.length : Int) then (if ((rd_T29 l0 x4_1).f1) ≥ ((rd_T29 x3_1 x5_2).f1) then (shelfmarkref18_Latest.l0 kj11 l0 (x3_1.set (x5_2 : Int).toNat (⟨(rd_T29 l0 x4_1).f0, (rd_T29 l0 x4_1).f1, (rd_T29 l0 x4_1).f2⟩ : S29)) (wrap64 (x4_1 + 1))) else (shelfmarkref18_Latest.l0 kj11 l0 x3_1 (wrap64 (x4_1 + 1)))) else (none)) else (none)) else (none)) else (none)) = some r := by rw [if_pos rfl] at H; exact H
  clear H
  have H := H1
  clear H1
  by_cases c20 : 0 ≤ x4_1
  rotate_left
  ·rw [if_neg c20] at H
   exact absurd H (by simp)
  rw [if_pos c20] at H
  have c20b0 : decide (0 ≤ x4_1) = true := decide_eq_true c20
  clear c20
  by_cases c21 : x4_1 < (l0.length : Int)
  rotate_left
  ·rw [if_neg c21] at H
   exact absurd H (by simp)
  rw [if_pos c21] at H
  have c21b0 : decide (x4_1 < (l0.length : Int)) = true := decide_eq_true c21
  clear c21
  by_cases c22 : 0 ≤ x5_2
  rotate_left
  ·rw [if_neg c22] at H
   exact absurd H (by simp)
  rw [if_pos c22] at H
  have c22b0 : decide (0 ≤ x5_2) = true := decide_eq_true c22
  clear c22
  by_cases c23 : x5_2 < (x3_1.length : Int)
  rotate_left
  ·rw [if_neg c23] at H
   exact absurd H (by simp)
  rw [if_pos c23] at H
  have c23b0 : decide (x5_2 < (x3_1.length : Int)) = true := decide_eq_true c23
  clear c23
  by_cases c24 : ((rd_T29 l0 x4_1).f1) ≥ ((rd_T29 x3_1 x5_2).f1)
  rotate_left
  ·rw [if_neg c24] at H
   have c24b0 : decide (((rd_T29 x3_1 x5_2).f1) ≤ ((rd_T29 l0 x4_1).f1)) = false := decide_eq_false c24
   clear c24
   have H' := Aside0.mk H
   clear H
   have p235 : 0 ≤ (x4_1 : Int) := of_decide_eq_true (by first | (with_reducible assumption) | assumption)
   have q235 : x4_1 < (l0.length : Int) := of_decide_eq_true (by first | (with_reducible assumption) | assumption)
   obtain ⟨ad235, e235, hx235_0, hx235_1, hx235_2⟩ := at_T29 HR0.out x4_1 p235 q235
   cases e235
   replace hx235_0 := (HB.out.cell (World.block_lt_of_cell? w _ hx235_0)).trans hx235_0
   replace hx235_1 := (HB.out.cell (World.block_lt_of_cell? w _ hx235_1)).trans hx235_1
   replace hx235_2 := (HB.out.cell (World.block_lt_of_cell? w _ hx235_2)).trans hx235_2
   replace p235 := eq_true p235
   replace q235 := eq_true q235
   obtain ⟨Ao29, co29, eo29⟩ := Kd.R_slice HO_3.out
   subst eo29
   have p236 : 0 ≤ (x5_2 : Int) := of_decide_eq_true (by first | (with_reducible assumption) | assumption)
   have q236 : x5_2 < (x3_1.length : Int) := of_decide_eq_true (by first | (with_reducible assumption) | assumption)
   obtain ⟨ad236, e236, hx236_0, hx236_1, hx236_2⟩ := at_T29 (Kd.R_reads' HO_3.out).2.2 x5_2 p236 q236
   cases e236
   replace p236 := eq_true p236
   replace q236 := eq_true q236
   go_wp2
   repeat (go_quiet (fail); try go_wp2)
   go_roundg kj11
   case measure => have := HK1.out; have := HJ2.out; have := HJ11.out; omega
   case rel => exact ⟨(x3_1), (wrap64 (x4_1 + 1)), (by first | rfl | (simp; done) | (simp [*]; done) | (simp [ne_nil_bytes]; done) | (simp [eq_nil_bytes]; done)), H', ⟨by have := HK1.out; have := HJ2.out; have := HJ11.out; omega⟩, ⟨by exact rL HO_3.out⟩, ⟨hL HB.out⟩⟩
  rw [if_pos c24] at H
  have c24b0 : decide (((rd_T29 x3_1 x5_2).f1) ≤ ((rd_T29 l0 x4_1).f1)) = true := decide_eq_true c24
  clear c24
  obtain ⟨y238, hy238⟩ : ∃ y_ : List (S29), y_ = (x3_1.set (x5_2 : Int).toNat (⟨(rd_T29 l0 x4_1).f0, (rd_T29 l0 x4_1).f1, (rd_T29 l0 x4_1).f2⟩ : S29)) := ⟨_, rfl⟩
  replace H : (shelfmarkref18_Latest.l0 kj11 l0 y238 (wrap64 (x4_1 + 1))) = some r := by first | (rw [hy238]; with_reducible exact H) | (have H2_ := (Option.bind_some _ _).symm.trans H; rw [hy238]; with_reducible exact H2_) | (have H2_ := (Option.bind_some _ _).symm.trans H; with_reducible exact H2_) | with_reducible exact H | (rw [hy238]; exact H) | exact H
  have Ny238 := Aside0.mk hy238
  clear hy238
  have H' := Aside0.mk H
  clear H
  have p235 : 0 ≤ (x4_1 : Int) := of_decide_eq_true (by first | (with_reducible assumption) | assumption)
  have q235 : x4_1 < (l0.length : Int) := of_decide_eq_true (by first | (with_reducible assumption) | assumption)
  obtain ⟨ad235, e235, hx235_0, hx235_1, hx235_2⟩ := at_T29 HR0.out x4_1 p235 q235
  cases e235
  replace hx235_0 := (HB.out.cell (World.block_lt_of_cell? w _ hx235_0)).trans hx235_0
  replace hx235_1 := (HB.out.cell (World.block_lt_of_cell? w _ hx235_1)).trans hx235_1
  replace hx235_2 := (HB.out.cell (World.block_lt_of_cell? w _ hx235_2)).trans hx235_2
  replace p235 := eq_true p235
  replace q235 := eq_true q235
  obtain ⟨Ao26, co26, eo26⟩ := Kd.R_slice HO_3.out
  subst eo26
  have p236 : 0 ≤ (x5_2 : Int) := of_decide_eq_true (by first | (with_reducible assumption) | assumption)
  have q236 : x5_2 < (x3_1.length : Int) := of_decide_eq_true (by first | (with_reducible assumption) | assumption)
  obtain ⟨ad236, e236, hx236_0, hx236_1, hx236_2⟩ := at_T29 (Kd.R_reads' HO_3.out).2.2 x5_2 p236 q236
  cases e236
  replace p236 := eq_true p236
  replace q236 := eq_true q236
  have p237 : 0 ≤ (x4_1 : Int) := of_decide_eq_true (by first | (with_reducible assumption) | assumption)
  have q237 : x4_1 < (l0.length : Int) := of_decide_eq_true (by first | (with_reducible assumption) | assumption)
  obtain ⟨ad237, e237, hx237_0, hx237_1, hx237_2⟩ := at_T29 HR0.out x4_1 p237 q237
  obtain rfl : ad235 = ad237 := (by injection e237)
  replace hx237_0 := (HB.out.cell (World.block_lt_of_cell? w _ hx237_0)).trans hx237_0
  replace hx237_1 := (HB.out.cell (World.block_lt_of_cell? w _ hx237_1)).trans hx237_1
  replace hx237_2 := (HB.out.cell (World.block_lt_of_cell? w _ hx237_2)).trans hx237_2
  replace p237 := eq_true p237
  replace q237 := eq_true q237
  have p25 : 0 ≤ (x5_2 : Int) := of_decide_eq_true (by first | (with_reducible assumption) | assumption)
  have q25 : (x5_2 : Int) < ((x3_1.length : Int) : Int) := of_decide_eq_true (by first | (with_reducible assumption) | assumption)
  obtain ⟨go25, co25, eo25, gb25, gl25, cl25, HG25⟩ := Kd.R_form HO_3.out (by omega)
  (first | cases eo25 | (injection eo25 with ea_ en_ ec_; (first | subst ea_ | (injection ea_ with ea_; subst ea_)); subst ec_; clear en_))
  have GB25 := Aside0.mk gb25
  have GG25 := Aside0.mk HG25
  clear gb25 gl25 HG25
  (first | simp only [add_plain] at hx236_0 | skip)
  (first | simp only [add_plain] at hx236_1 | skip)
  (first | simp only [add_plain] at hx236_2 | skip)
  obtain ⟨ce25, hcl25, hM25, hcc25, hfr25⟩ := Kd.R_elem HO_3.out z29 (x5_2 : Int) p25 q25
  obtain rfl := k29_openM hM25
  have hx25_0 : wc.cell? ⟨go25, (x5_2 : Int).toNat * 3, none⟩ = some (.string ((rd_T29 x3_1 x5_2).f0)) := hcc25 0 _ rfl
  have hx25_1 : wc.cell? ⟨go25, (x5_2 : Int).toNat * 3 + 1, none⟩ = some (.int .i64 ((rd_T29 x3_1 x5_2).f1)) := hcc25 1 _ rfl
  have hx25_2 : wc.cell? ⟨go25, (x5_2 : Int).toNat * 3 + 2, none⟩ = some (.bool ((rd_T29 x3_1 x5_2).f2)) := hcc25 2 _ rfl
  have hf25_0 : wc.frozen? ⟨go25, (x5_2 : Int).toNat * 3, none⟩ = false := hfr25 0
  have hf25_1 : wc.frozen? ⟨go25, (x5_2 : Int).toNat * 3 + 1, none⟩ = false := hfr25 1
  have hf25_2 : wc.frozen? ⟨go25, (x5_2 : Int).toNat * 3 + 2, none⟩ = false := hfr25 2
  clear hcl25 hcc25 hfr25 hM25
  replace p25 := eq_true p25
  replace q25 := eq_true q25
  have HX27 := Aside0.mk (show Kd.R k29 29 wc w.heap.size (fun _ => True) (.slice (some ⟨go25, 0, none⟩) x3_1.length co26) x3_1 from (rL HO_3.out))
  obtain ⟨ce27, hcl27, hM27, hcc27, hfr27⟩ := Kd.R_elem HX27.out z29 (x5_2 : Int) (of_decide_eq_true (by first | (with_reducible assumption) | assumption)) (by have h_ : (x5_2 : Int) < ((x3_1.length : Int) : Int) := of_decide_eq_true (by first | (with_reducible assumption) | assumption); first | exact h_ | (have e_ := (Kd.R_reads' HO_3.out).1; omega) | simpa using h_)
  obtain rfl := k29_openM hM27
  have HP27 := Kd.R_seg HX27.out (x5_2 : Int) (of_decide_eq_true (by first | (with_reducible assumption) | assumption)) (by have h_ : (x5_2 : Int) < ((x3_1.length : Int) : Int) := of_decide_eq_true (by first | (with_reducible assumption) | assumption); first | exact h_ | (have e_ := (Kd.R_reads' HO_3.out).1; omega) | simpa using h_) (seg := [.string ((rd_T29 l0 x4_1).f0), .int .i64 ((rd_T29 l0 x4_1).f1), .bool ((rd_T29 l0 x4_1).f2)]) (j := 0) hcl27 hcc27 (show 3 ≤ 3 from by decide) (x' := (⟨(rd_T29 l0 x4_1).f0, (rd_T29 l0 x4_1).f1, (rd_T29 l0 x4_1).f2⟩ : S29)) (k29_mkM _ _ _ (⟨(rd_T29 l0 x4_1).f0, (rd_T29 l0 x4_1).f1, (rd_T29 l0 x4_1).f2⟩ : S29) ) (fun _ hk => hk)
  have hx27_0 := hcc27 0 _ rfl
  (try simp only [show (k29).sz = 3 from rfl, Nat.mul_one, Nat.add_zero] at hx27_0)
  have hf27_0 := hfr27 0
  (try simp only [show (k29).sz = 3 from rfl, Nat.mul_one, Nat.add_zero] at hf27_0)
  have hx27_1 := hcc27 1 _ rfl
  (try simp only [show (k29).sz = 3 from rfl, Nat.mul_one, Nat.add_zero] at hx27_1)
  have hf27_1 := hfr27 1
  (try simp only [show (k29).sz = 3 from rfl, Nat.mul_one, Nat.add_zero] at hf27_1)
  have hx27_2 := hcc27 2 _ rfl
  (try simp only [show (k29).sz = 3 from rfl, Nat.mul_one, Nat.add_zero] at hx27_2)
  have hf27_2 := hfr27 2
  (try simp only [show (k29).sz = 3 from rfl, Nat.mul_one, Nat.add_zero] at hf27_2)
  clear hcl27 hcc27 hfr27 hM27
  go_wp2_with (first | ((with_reducible refine gate_store (t := 29) (p := 66) rfl ?_); (try (rw [drewN_self wc]; generalize hq_ : World.drewN wc _ = wc; have n0_ := Aside0.mk (Kd.R_at hq_ HO_3.out); have n1_ := Aside0.mk (below_at hq_ HB.out); clear hq_ HO_3 HB; have HO_3 := n0_; have HB := n1_; clear n0_ n1_; (try (have HX27 := Aside0.mk (show Kd.R k29 29 wc w.heap.size (fun _ => True) (.slice (some ⟨go25, 0, none⟩) x3_1.length co26) x3_1 from (rL HO_3.out)))); (try (obtain ⟨ce27, hcl27, hM27, hcc27, hfr27⟩ := Kd.R_elem HX27.out z29 (x5_2 : Int) (of_decide_eq_true (by first | (with_reducible assumption) | assumption)) (by have h_ : (x5_2 : Int) < ((x3_1.length : Int) : Int) := of_decide_eq_true (by first | (with_reducible assumption) | assumption); first | exact h_ | (have e_ := (Kd.R_reads' HO_3.out).1; omega) | simpa using h_))); (try (obtain rfl := k29_openM hM27)); (try (have HP27 := Kd.R_seg HX27.out (x5_2 : Int) (of_decide_eq_true (by first | (with_reducible assumption) | assumption)) (by have h_ : (x5_2 : Int) < ((x3_1.length : Int) : Int) := of_decide_eq_true (by first | (with_reducible assumption) | assumption); first | exact h_ | (have e_ := (Kd.R_reads' HO_3.out).1; omega) | simpa using h_) (seg := [.string ((rd_T29 l0 x4_1).f0), .int .i64 ((rd_T29 l0 x4_1).f1), .bool ((rd_T29 l0 x4_1).f2)]) (j := 0) hcl27 hcc27 (show 3 ≤ 3 from by decide) (x' := (⟨(rd_T29 l0 x4_1).f0, (rd_T29 l0 x4_1).f1, (rd_T29 l0 x4_1).f2⟩ : S29)) (k29_mkM _ _ _ (⟨(rd_T29 l0 x4_1).f0, (rd_T29 l0 x4_1).f1, (rd_T29 l0 x4_1).f2⟩ : S29) ) (fun _ hk => hk))); (try (have hx27_0 := hcc27 0 _ rfl)); (try (try simp only [show (k29).sz = 3 from rfl, Nat.mul_one, Nat.add_zero] at hx27_0)); (try (have hf27_0 := hfr27 0)); (try (try simp only [show (k29).sz = 3 from rfl, Nat.mul_one, Nat.add_zero] at hf27_0)); (try (have hx27_1 := hcc27 1 _ rfl)); (try (try simp only [show (k29).sz = 3 from rfl, Nat.mul_one, Nat.add_zero] at hx27_1)); (try (have hf27_1 := hfr27 1)); (try (try simp only [show (k29).sz = 3 from rfl, Nat.mul_one, Nat.add_zero] at hf27_1)); (try (have hx27_2 := hcc27 2 _ rfl)); (try (try simp only [show (k29).sz = 3 from rfl, Nat.mul_one, Nat.add_zero] at hx27_2)); (try (have hf27_2 := hfr27 2)); (try (try simp only [show (k29).sz = 3 from rfl, Nat.mul_one, Nat.add_zero] at hf27_2)); (try (clear hcl27 hcc27 hfr27 hM27)))); refine store_event (t := 29) (p := 66) (v := ?vo_w28) (w1 := (((wc.setCell ⟨go25, (x5_2 : Int).toNat * 3, none⟩ (.string ((rd_T29 l0 x4_1).f0))).setCell ⟨go25, (x5_2 : Int).toNat * 3 + 1, none⟩ (.int .i64 ((rd_T29 l0 x4_1).f1))).setCell ⟨go25, (x5_2 : Int).toNat * 3 + 2, none⟩ (.bool ((rd_T29 l0 x4_1).f2)))) ?hg ?ho ?hn ?hr ?_; (case ho => rfl); (case hg => rfl); (case hn => rfl); (case hr => first | (go_simp; done) | (go_simp; rfl)); intro w28 hw; have hg : wc.grownBy w28 (some go25) := (by rw [hw]; exact HP27.2); have hp_ : Kd.R k29 29 w28 w.heap.size (fun _ => True) (.slice (some ⟨go25, 0, none⟩) x3_1.length co26) y238 := (by rw [hw, Ny238.out]; exact HP27.1); clear HP27; have n0_ := Aside0.mk (hp_); have n1_ := Aside0.mk ((by rw [hw]; exact below_set (below_set (below_set (HB.out) GB25.out) GB25.out) GB25.out : Below w.heap.size w w28)); clear HO_3; clear HB; have HO_3 := n0_; have HB := n1_; clear n0_ n1_; clear hg hw hp_))
  repeat (go_quiet (first | ((with_reducible refine gate_store (t := 29) (p := 66) rfl ?_); (try (rw [drewN_self wc]; generalize hq_ : World.drewN wc _ = wc; have n0_ := Aside0.mk (Kd.R_at hq_ HO_3.out); have n1_ := Aside0.mk (below_at hq_ HB.out); clear hq_ HO_3 HB; have HO_3 := n0_; have HB := n1_; clear n0_ n1_; (try (have HX27 := Aside0.mk (show Kd.R k29 29 wc w.heap.size (fun _ => True) (.slice (some ⟨go25, 0, none⟩) x3_1.length co26) x3_1 from (rL HO_3.out)))); (try (obtain ⟨ce27, hcl27, hM27, hcc27, hfr27⟩ := Kd.R_elem HX27.out z29 (x5_2 : Int) (of_decide_eq_true (by first | (with_reducible assumption) | assumption)) (by have h_ : (x5_2 : Int) < ((x3_1.length : Int) : Int) := of_decide_eq_true (by first | (with_reducible assumption) | assumption); first | exact h_ | (have e_ := (Kd.R_reads' HO_3.out).1; omega) | simpa using h_))); (try (obtain rfl := k29_openM hM27)); (try (have HP27 := Kd.R_seg HX27.out (x5_2 : Int) (of_decide_eq_true (by first | (with_reducible assumption) | assumption)) (by have h_ : (x5_2 : Int) < ((x3_1.length : Int) : Int) := of_decide_eq_true (by first | (with_reducible assumption) | assumption); first | exact h_ | (have e_ := (Kd.R_reads' HO_3.out).1; omega) | simpa using h_) (seg := [.string ((rd_T29 l0 x4_1).f0), .int .i64 ((rd_T29 l0 x4_1).f1), .bool ((rd_T29 l0 x4_1).f2)]) (j := 0) hcl27 hcc27 (show 3 ≤ 3 from by decide) (x' := (⟨(rd_T29 l0 x4_1).f0, (rd_T29 l0 x4_1).f1, (rd_T29 l0 x4_1).f2⟩ : S29)) (k29_mkM _ _ _ (⟨(rd_T29 l0 x4_1).f0, (rd_T29 l0 x4_1).f1, (rd_T29 l0 x4_1).f2⟩ : S29) ) (fun _ hk => hk))); (try (have hx27_0 := hcc27 0 _ rfl)); (try (try simp only [show (k29).sz = 3 from rfl, Nat.mul_one, Nat.add_zero] at hx27_0)); (try (have hf27_0 := hfr27 0)); (try (try simp only [show (k29).sz = 3 from rfl, Nat.mul_one, Nat.add_zero] at hf27_0)); (try (have hx27_1 := hcc27 1 _ rfl)); (try (try simp only [show (k29).sz = 3 from rfl, Nat.mul_one, Nat.add_zero] at hx27_1)); (try (have hf27_1 := hfr27 1)); (try (try simp only [show (k29).sz = 3 from rfl, Nat.mul_one, Nat.add_zero] at hf27_1)); (try (have hx27_2 := hcc27 2 _ rfl)); (try (try simp only [show (k29).sz = 3 from rfl, Nat.mul_one, Nat.add_zero] at hx27_2)); (try (have hf27_2 := hfr27 2)); (try (try simp only [show (k29).sz = 3 from rfl, Nat.mul_one, Nat.add_zero] at hf27_2)); (try (clear hcl27 hcc27 hfr27 hM27)))); refine store_event (t := 29) (p := 66) (v := ?vo_w28) (w1 := (((wc.setCell ⟨go25, (x5_2 : Int).toNat * 3, none⟩ (.string ((rd_T29 l0 x4_1).f0))).setCell ⟨go25, (x5_2 : Int).toNat * 3 + 1, none⟩ (.int .i64 ((rd_T29 l0 x4_1).f1))).setCell ⟨go25, (x5_2 : Int).toNat * 3 + 2, none⟩ (.bool ((rd_T29 l0 x4_1).f2)))) ?hg ?ho ?hn ?hr ?_; (case ho => rfl); (case hg => rfl); (case hn => rfl); (case hr => first | (go_simp; done) | (go_simp; rfl)); intro w28 hw; have hg : wc.grownBy w28 (some go25) := (by rw [hw]; exact HP27.2); have hp_ : Kd.R k29 29 w28 w.heap.size (fun _ => True) (.slice (some ⟨go25, 0, none⟩) x3_1.length co26) y238 := (by rw [hw, Ny238.out]; exact HP27.1); clear HP27; have n0_ := Aside0.mk (hp_); have n1_ := Aside0.mk ((by rw [hw]; exact below_set (below_set (below_set (HB.out) GB25.out) GB25.out) GB25.out : Below w.heap.size w w28)); clear HO_3; clear HB; have HO_3 := n0_; have HB := n1_; clear n0_ n1_; clear hg hw hp_)); try go_wp2_with (first | ((with_reducible refine gate_store (t := 29) (p := 66) rfl ?_); (try (rw [drewN_self wc]; generalize hq_ : World.drewN wc _ = wc; have n0_ := Aside0.mk (Kd.R_at hq_ HO_3.out); have n1_ := Aside0.mk (below_at hq_ HB.out); clear hq_ HO_3 HB; have HO_3 := n0_; have HB := n1_; clear n0_ n1_; (try (have HX27 := Aside0.mk (show Kd.R k29 29 wc w.heap.size (fun _ => True) (.slice (some ⟨go25, 0, none⟩) x3_1.length co26) x3_1 from (rL HO_3.out)))); (try (obtain ⟨ce27, hcl27, hM27, hcc27, hfr27⟩ := Kd.R_elem HX27.out z29 (x5_2 : Int) (of_decide_eq_true (by first | (with_reducible assumption) | assumption)) (by have h_ : (x5_2 : Int) < ((x3_1.length : Int) : Int) := of_decide_eq_true (by first | (with_reducible assumption) | assumption); first | exact h_ | (have e_ := (Kd.R_reads' HO_3.out).1; omega) | simpa using h_))); (try (obtain rfl := k29_openM hM27)); (try (have HP27 := Kd.R_seg HX27.out (x5_2 : Int) (of_decide_eq_true (by first | (with_reducible assumption) | assumption)) (by have h_ : (x5_2 : Int) < ((x3_1.length : Int) : Int) := of_decide_eq_true (by first | (with_reducible assumption) | assumption); first | exact h_ | (have e_ := (Kd.R_reads' HO_3.out).1; omega) | simpa using h_) (seg := [.string ((rd_T29 l0 x4_1).f0), .int .i64 ((rd_T29 l0 x4_1).f1), .bool ((rd_T29 l0 x4_1).f2)]) (j := 0) hcl27 hcc27 (show 3 ≤ 3 from by decide) (x' := (⟨(rd_T29 l0 x4_1).f0, (rd_T29 l0 x4_1).f1, (rd_T29 l0 x4_1).f2⟩ : S29)) (k29_mkM _ _ _ (⟨(rd_T29 l0 x4_1).f0, (rd_T29 l0 x4_1).f1, (rd_T29 l0 x4_1).f2⟩ : S29) ) (fun _ hk => hk))); (try (have hx27_0 := hcc27 0 _ rfl)); (try (try simp only [show (k29).sz = 3 from rfl, Nat.mul_one, Nat.add_zero] at hx27_0)); (try (have hf27_0 := hfr27 0)); (try (try simp only [show (k29).sz = 3 from rfl, Nat.mul_one, Nat.add_zero] at hf27_0)); (try (have hx27_1 := hcc27 1 _ rfl)); (try (try simp only [show (k29).sz = 3 from rfl, Nat.mul_one, Nat.add_zero] at hx27_1)); (try (have hf27_1 := hfr27 1)); (try (try simp only [show (k29).sz = 3 from rfl, Nat.mul_one, Nat.add_zero] at hf27_1)); (try (have hx27_2 := hcc27 2 _ rfl)); (try (try simp only [show (k29).sz = 3 from rfl, Nat.mul_one, Nat.add_zero] at hx27_2)); (try (have hf27_2 := hfr27 2)); (try (try simp only [show (k29).sz = 3 from rfl, Nat.mul_one, Nat.add_zero] at hf27_2)); (try (clear hcl27 hcc27 hfr27 hM27)))); refine store_event (t := 29) (p := 66) (v := ?vo_w28) (w1 := (((wc.setCell ⟨go25, (x5_2 : Int).toNat * 3, none⟩ (.string ((rd_T29 l0 x4_1).f0))).setCell ⟨go25, (x5_2 : Int).toNat * 3 + 1, none⟩ (.int .i64 ((rd_T29 l0 x4_1).f1))).setCell ⟨go25, (x5_2 : Int).toNat * 3 + 2, none⟩ (.bool ((rd_T29 l0 x4_1).f2)))) ?hg ?ho ?hn ?hr ?_; (case ho => rfl); (case hg => rfl); (case hn => rfl); (case hr => first | (go_simp; done) | (go_simp; rfl)); intro w28 hw; have hg : wc.grownBy w28 (some go25) := (by rw [hw]; exact HP27.2); have hp_ : Kd.R k29 29 w28 w.heap.size (fun _ => True) (.slice (some ⟨go25, 0, none⟩) x3_1.length co26) y238 := (by rw [hw, Ny238.out]; exact HP27.1); clear HP27; have n0_ := Aside0.mk (hp_); have n1_ := Aside0.mk ((by rw [hw]; exact below_set (below_set (below_set (HB.out) GB25.out) GB25.out) GB25.out : Below w.heap.size w w28)); clear HO_3; clear HB; have HO_3 := n0_; have HB := n1_; clear n0_ n1_; clear hg hw hp_)))
  go_roundg kj11
  case measure => have := HK1.out; have := HJ2.out; have := HJ11.out; omega
  case rel => exact ⟨(y238), (wrap64 (x4_1 + 1)), (by first | rfl | (simp; done) | (simp [*]; done) | (simp [ne_nil_bytes]; done) | (simp [eq_nil_bytes]; done)), H', ⟨by have := HK1.out; have := HJ2.out; have := HJ11.out; omega⟩, ⟨by exact rL HO_3.out⟩, ⟨hL HB.out⟩⟩
 replace c19 := Bool.eq_false_iff.mpr c19
 subst c19
 have H1 : (if 0 ≤ x5_2 then (if x5_2 ≤ (x3_1.length : Int) then ((some (x3_1.take (x5_2 : Int).toNat : List (S29))).bind fun y239 => (if ([] : List (S29)).length + y239.length < 4398046511104 then ((some (([] : List (S29)) ++ y239 : List (S29))).bind fun y243 => (if 0 ≤ x4_1 then (if x4_1 < (l0.length : Int) then (if y243.length < 4398046511104 then ((some (y243 ++ [(⟨(rd_T29 l0 x4_1).f0, (rd_T29 l0 x4_1).f1, (rd_T29 l0 x4_1).f2⟩ : S29)] : List (S29))).bind fun y247 => ((some (x3_1.drop (x5_2 : Int).toNat : List (S29))).bind fun y250 => (if y247.length + y250.length < 4398046511104 then (shelfmarkref18_Latest.l0 kj11 l0 (y247 ++ y250) (wrap64 (x4_1 + 1))) else (none)))) else (none)) else (none)) else (none))) else (none))) else (none)) else (none)) = some r := by rw [if_neg (show ¬ (false = true) by decide)] at H; exact H
 clear H
 have H := H1
 clear H1
 by_cases c30 : 0 ≤ x5_2
 rotate_left
 ·rw [if_neg c30] at H
  exact absurd H (by simp)
 rw [if_pos c30] at H
 have c30b0 := eq_true c30
 have c30b1 : decide (0 ≤ x5_2) = true := decide_eq_true c30
 clear c30
 by_cases c31 : x5_2 ≤ (x3_1.length : Int)
 rotate_left
 ·rw [if_neg c31] at H
  exact absurd H (by simp)
 rw [if_pos c31] at H
 have c31b0 := eq_true c31
 have c31b1 : decide (x5_2 ≤ (x3_1.length : Int)) = true := decide_eq_true c31
 clear c31
 obtain ⟨y239, hy239⟩ : ∃ y_ : List (S29), y_ = (x3_1.take (x5_2 : Int).toNat) := ⟨_, rfl⟩
 replace H : (if ([] : List (S29)).length + y239.length < 4398046511104 then ((some (([] : List (S29)) ++ y239 : List (S29))).bind fun y243 => (if 0 ≤ x4_1 then (if x4_1 < (l0.length : Int) then (if y243.length < 4398046511104 then ((some (y243 ++ [(⟨(rd_T29 l0 x4_1).f0, (rd_T29 l0 x4_1).f1, (rd_T29 l0 x4_1).f2⟩ : S29)] : List (S29))).bind fun y247 => ((some (x3_1.drop (x5_2 : Int).toNat : List (S29))).bind fun y250 => (if y247.length + y250.length < 4398046511104 then (shelfmarkref18_Latest.l0 kj11 l0 (y247 ++ y250) (wrap64 (x4_1 + 1))) else (none)))) else (none)) else (none)) else (none))) else (none)) = some r := by first | (rw [hy239]; with_reducible exact H) | (have H2_ := (Option.bind_some _ _).symm.trans H; rw [hy239]; with_reducible exact H2_) | (have H2_ := (Option.bind_some _ _).symm.trans H; with_reducible exact H2_) | with_reducible exact H | (rw [hy239]; exact H) | exact H
 have Ny239 := Aside0.mk hy239
 clear hy239
 by_cases c32 : ([] : List (S29)).length + y239.length < 4398046511104
 rotate_left
 ·rw [if_neg c32] at H
  exact absurd H (by simp)
 rw [if_pos c32] at H
 have LMc32 := Aside0.mk c32
 clear c32
 obtain ⟨y243, hy243⟩ : ∃ y_ : List (S29), y_ = (([] : List (S29)) ++ y239) := ⟨_, rfl⟩
 replace H : (if 0 ≤ x4_1 then (if x4_1 < (l0.length : Int) then (if y243.length < 4398046511104 then ((some (y243 ++ [(⟨(rd_T29 l0 x4_1).f0, (rd_T29 l0 x4_1).f1, (rd_T29 l0 x4_1).f2⟩ : S29)] : List (S29))).bind fun y247 => ((some (x3_1.drop (x5_2 : Int).toNat : List (S29))).bind fun y250 => (if y247.length + y250.length < 4398046511104 then (shelfmarkref18_Latest.l0 kj11 l0 (y247 ++ y250) (wrap64 (x4_1 + 1))) else (none)))) else (none)) else (none)) else (none)) = some r := by first | (rw [hy243]; with_reducible exact H) | (have H2_ := (Option.bind_some _ _).symm.trans H; rw [hy243]; with_reducible exact H2_) | (have H2_ := (Option.bind_some _ _).symm.trans H; with_reducible exact H2_) | with_reducible exact H | (rw [hy243]; exact H) | exact H
 have Ny243 := Aside0.mk hy243
 clear hy243
 by_cases c33 : 0 ≤ x4_1
 rotate_left
 ·rw [if_neg c33] at H
  exact absurd H (by simp)
 rw [if_pos c33] at H
 have c33b0 : decide (0 ≤ x4_1) = true := decide_eq_true c33
 clear c33
 by_cases c34 : x4_1 < (l0.length : Int)
 rotate_left
 ·rw [if_neg c34] at H
  exact absurd H (by simp)
 rw [if_pos c34] at H
 have c34b0 : decide (x4_1 < (l0.length : Int)) = true := decide_eq_true c34
 clear c34
 by_cases c35 : y243.length < 4398046511104
 rotate_left
 ·rw [if_neg c35] at H
  exact absurd H (by simp)
 rw [if_pos c35] at H
 have LMc35 := Aside0.mk c35
 clear c35
 obtain ⟨y247, hy247⟩ : ∃ y_ : List (S29), y_ = (y243 ++ [(⟨(rd_T29 l0 x4_1).f0, (rd_T29 l0 x4_1).f1, (rd_T29 l0 x4_1).f2⟩ : S29)]) := ⟨_, rfl⟩
 replace H : ((some (x3_1.drop (x5_2 : Int).toNat : List (S29))).bind fun y250 => (if y247.length + y250.length < 4398046511104 then (shelfmarkref18_Latest.l0 kj11 l0 (y247 ++ y250) (wrap64 (x4_1 + 1))) else (none))) = some r := by first | (rw [hy247]; with_reducible exact H) | (have H2_ := (Option.bind_some _ _).symm.trans H; rw [hy247]; with_reducible exact H2_) | (have H2_ := (Option.bind_some _ _).symm.trans H; with_reducible exact H2_) | with_reducible exact H | (rw [hy247]; exact H) | exact H
 have Ny247 := Aside0.mk hy247
 clear hy247
 have c36b0 := eq_true (of_decide_eq_true (by first | (with_reducible assumption) | assumption) : 0 ≤ x5_2)
 have c37b0 := eq_true (of_decide_eq_true (by first | (with_reducible assumption) | assumption) : x5_2 ≤ (x3_1.length : Int))
 obtain ⟨y250, hy250⟩ : ∃ y_ : List (S29), y_ = (x3_1.drop (x5_2 : Int).toNat) := ⟨_, rfl⟩
 replace H : (if y247.length + y250.length < 4398046511104 then (shelfmarkref18_Latest.l0 kj11 l0 (y247 ++ y250) (wrap64 (x4_1 + 1))) else (none)) = some r := by first | (rw [hy250]; with_reducible exact H) | (have H2_ := (Option.bind_some _ _).symm.trans H; rw [hy250]; with_reducible exact H2_) | (have H2_ := (Option.bind_some _ _).symm.trans H; with_reducible exact H2_) | with_reducible exact H | (rw [hy250]; exact H) | exact H
 have Ny250 := Aside0.mk hy250
 clear hy250
 by_cases c38 : y247.length + y250.length < 4398046511104
 rotate_left
 ·rw [if_neg c38] at H
  exact absurd H (by simp)
 rw [if_pos c38] at H
 have LMc38 := Aside0.mk c38
 clear c38
 obtain ⟨y254, hy254⟩ : ∃ y_ : List (S29), y_ = (y247 ++ y250) := ⟨_, rfl⟩
 replace H : (shelfmarkref18_Latest.l0 kj11 l0 y254 (wrap64 (x4_1 + 1))) = some r := by first | (rw [hy254]; with_reducible exact H) | (have H2_ := (Option.bind_some _ _).symm.trans H; rw [hy254]; with_reducible exact H2_) | (have H2_ := (Option.bind_some _ _).symm.trans H; with_reducible exact H2_) | with_reducible exact H | (rw [hy254]; exact H) | exact H
 have Ny254 := Aside0.mk hy254
 clear hy254
 have H' := Aside0.mk H
 clear H
 obtain ⟨Ao40, co40, eo40⟩ := Kd.R_slice HO_3.out
 subst eo40
 have q39 : (x5_2 : Int) ≤ ((x3_1.length : Int) : Int) := of_decide_eq_true (by first | (with_reducible assumption) | assumption)
 obtain ⟨i039, hi039, _, hsz39, _⟩ := info_parts info29
 have hroom39 : x3_1.length ≤ co40 := (Kd.R_reads' HO_3.out).2.1
 have hC39 : Kd.C k29 _ Ao40 x3_1.length x3_1 := (Kd.R_reads' HO_3.out).2.2
 have hcut39 := cut_to (P := Try.prog) 22 29 .i64 Try.underlying22 hi039 Ao40 x3_1.length co40 x5_2 (of_decide_eq_true (by first | (with_reducible assumption) | assumption)) q39 hroom39
 have hr39 := Kd.C_take (m := (x5_2 : Int).toNat) hC39 (by omega)
 have hy39 : y239.length = (x5_2 : Int).toNat := (by rw [Ny239.out, List.length_take]; omega)
 rw [← Ny239.out] at hr39
 rw [← hy39] at hcut39
 have HR242 := Aside0.mk hr39
 have HC242 := Aside0.mk (show y239.length ≤ co40 from by omega)
 clear hr39 hC39 hroom39 hi039 hsz39
 have KY39 := Aside0.mk hy39
 clear hy39
 have KL39 := Aside0.mk (show (x5_2 : Int).toNat ≤ x3_1.length from by omega)
 replace q39 := eq_true q39
 go_wp2_with (first | ((with_reducible refine gate_builtin (b := .append) (xs := #[.tmp 67, .tmp 70]) rfl ?_); at_builtin; refine Kd.R_append_rows k29 (w0 := w) w.heap.size rfl (.tmp 67) (.tmp 70) 22 29 (.agg #[(.string ⟨#[]⟩), (.int .i64 0), (.bool false)]) 32 rfl Try.underlying22 info29 rfl (by decide) (by omega) (.slice none 0 0) ([] : List (S29)) y239 _ _ _ (fun k_ => some k_ ≠ (.slice Ao40 x3_1.length co40 : Value).ownBlock) (fun _ => False) rfl rfl ?aO ?aR (fun _ _ h => h) (fun _ h => h.elim) ?aF ?aB ?aS ?aL ?_; (case aR => repeat (first | exact (by repeat (first | (with_reducible exact HR242.out) | (with_reducible refine Kd.C_alloc ?_ _) | (with_reducible refine Kd.C_drewN ?_ _) | (with_reducible refine Kd.C_drew ?_) | exact HR242.out)) | (with_reducible refine Kd.C_alloc ?_ _) | (with_reducible refine Kd.C_drewN ?_ _) | (with_reducible refine Kd.C_drew ?_))); (case aB => exact (hL HB.out)); (case aF => exact (fun k_ hk => Kd.fresh' (Kd.R_lt (rL HO_3.out)) k_ hk)); (case aO => exact ((Kd.R_nil _ _ _ _ (fun k_ => some k_ ≠ (.slice Ao40 x3_1.length co40 : Value).ownBlock)))); (case aS => exact (below_size (hL HB.out))); (case aL => have := LMc32.out; omega); intro v244 w41 ho hb hg hat; rw [← Ny243.out] at ho; have n0_ := Aside0.mk (Kd.R_after (Kd.R_apart_nil (rL HO_3.out)) hg hat); have n1_ := Aside0.mk (hb); have n2_ := Aside0.mk ((show Kd.C k29 w41 Ao40 y239.length y239 from by rw [Ny239.out]; exact Kd.C_take (m := (x5_2 : Int).toNat) ((Kd.R_reads' (Kd.R_after (Kd.R_apart_nil (rL HO_3.out)) hg hat)).2.2) KL39.out)); have n3_ := Aside0.mk (ho); clear HO_3; clear HB; clear HR242; have HO_3 := n0_; have HB := n1_; have HR242 := n2_; have HO245 := n3_; clear n0_ n1_ n2_ n3_; clear ho hb hg hat; have p246 : 0 ≤ (x4_1 : Int) := of_decide_eq_true (by first | (with_reducible assumption) | assumption); have q246 : x4_1 < (l0.length : Int) := of_decide_eq_true (by first | (with_reducible assumption) | assumption); obtain ⟨ad246, e246, hx246_0, hx246_1, hx246_2⟩ := at_T29 HR0.out x4_1 p246 q246; cases e246; replace hx246_0 := (HB.out.cell (World.block_lt_of_cell? w _ hx246_0)).trans hx246_0; replace hx246_1 := (HB.out.cell (World.block_lt_of_cell? w _ hx246_1)).trans hx246_1; replace hx246_2 := (HB.out.cell (World.block_lt_of_cell? w _ hx246_2)).trans hx246_2; replace p246 := eq_true p246; replace q246 := eq_true q246) | ((with_reducible refine gate_builtin (b := .append) (xs := #[.tmp 72, .tmp 77]) rfl ?_); at_builtin; refine Kd.R_append k29 (w0 := w) w.heap.size rfl (.tmp 72) (.tmp 77) 22 29 (.agg #[(.string ⟨#[]⟩), (.int .i64 0), (.bool false)]) 32 rfl Try.underlying22 info29 rfl (by decide) (by omega) v244 y243 (⟨(rd_T29 l0 x4_1).f0, (rd_T29 l0 x4_1).f1, (rd_T29 l0 x4_1).f2⟩ : S29) [.string ((rd_T29 l0 x4_1).f0), .int .i64 ((rd_T29 l0 x4_1).f1), .bool ((rd_T29 l0 x4_1).f2)] (fun k_ => some k_ ≠ (.slice Ao40 x3_1.length co40 : Value).ownBlock) (fun _ => False) rfl rfl ?aP (fun _ hk => hk.elim) ?aF ?aO ?aB ?aS ?aL ?_; (case aP => exact k29_mkM _ _ _ (⟨(rd_T29 l0 x4_1).f0, (rd_T29 l0 x4_1).f1, (rd_T29 l0 x4_1).f2⟩ : S29)); (case aB => exact (hL HB.out)); (case aF => exact (fun k_ hk => Kd.fresh' (Kd.R_lt (rL HO_3.out)) k_ hk)); (case aO => exact (rL HO245.out)); (case aS => exact (below_size (hL HB.out))); (case aL => have := LMc35.out; omega); intro v248 w42 ho hb hg hat; rw [← Ny247.out] at ho; have n0_ := Aside0.mk (Kd.R_after (ok := (fun _ => True)) (rL HO_3.out) hg hat); have n1_ := Aside0.mk (hb); have n2_ := Aside0.mk ((show Kd.C k29 w42 Ao40 y239.length y239 from by rw [Ny239.out]; exact Kd.C_take (m := (x5_2 : Int).toNat) ((Kd.R_reads' (Kd.R_after (ok := (fun _ => True)) (rL HO_3.out) hg hat)).2.2) KL39.out)); have n3_ := Aside0.mk (ho); clear HO_3; clear HB; clear HR242; clear HO245; have HO_3 := n0_; have HB := n1_; have HR242 := n2_; have HO249 := n3_; clear n0_ n1_ n2_ n3_; clear ho hb hg hat; have q43 : (x5_2 : Int) ≤ ((x3_1.length : Int) : Int) := of_decide_eq_true (by first | (with_reducible assumption) | assumption); obtain ⟨i043, hi043, _, hsz43, _⟩ := info_parts info29; have hroom43 : x3_1.length ≤ co40 := (Kd.R_reads' HO_3.out).2.1; have hC43 : Kd.C k29 _ Ao40 x3_1.length x3_1 := (Kd.R_reads' HO_3.out).2.2; have q043 : (0 : Int) ≤ (x5_2 : Int) := of_decide_eq_true (by first | (with_reducible assumption) | assumption); have hcut43 := cut_from (P := Try.prog) 22 29 .i64 Try.underlying22 hi043 3 hsz43 Ao40 x3_1.length co40 x5_2 q043 q43; have hr43 := Kd.C_drop (m := (x5_2 : Int).toNat) (c := co40) hC43 (by omega) hroom43; obtain ⟨A43, hA43⟩ : ∃ A1, A1 = (if co40 = (x5_2 : Int).toNat then Ao40 else (Ao40 : Option Addr).map (·.add ((x5_2 : Int).toNat * 3))) := ⟨_, rfl⟩; obtain ⟨c43, hc43⟩ : ∃ c1, c1 = co40 - (x5_2 : Int).toNat := ⟨_, rfl⟩; have hy43 : y250.length = x3_1.length - (x5_2 : Int).toNat := (by rw [Ny250.out, List.length_drop] <;> omega); rw [show (x3_1).drop (x5_2 : Int).toNat = y250 from Ny250.out.symm] at hr43; replace hr43 : Kd.C k29 _ A43 y250.length y250 := (by rw [hA43]; exact hr43); rw [← hy43, ← hA43, ← hc43] at hcut43; have HR253 := Aside0.mk hr43; have HC253 := Aside0.mk (show y250.length ≤ c43 from by rw [hy43, hc43]; exact Nat.sub_le_sub_right hroom43 _); clear hr43 hC43 hroom43 hi043 hsz43 hc43; have KY43 := Aside0.mk hy43; have KA43 := Aside0.mk hA43; clear hy43 hA43; have KL43 := Aside0.mk (show (x5_2 : Int).toNat ≤ x3_1.length from by omega); replace q43 := eq_true q43) | ((with_reducible refine gate_builtin (b := .append) (xs := #[.tmp 79, .tmp 82]) rfl ?_); at_builtin; refine Kd.R_append_rows k29 (w0 := w) w.heap.size rfl (.tmp 79) (.tmp 82) 22 29 (.agg #[(.string ⟨#[]⟩), (.int .i64 0), (.bool false)]) 32 rfl Try.underlying22 info29 rfl (by decide) (by omega) v248 y247 y250 _ _ _ (fun k_ => some k_ ≠ (.slice Ao40 x3_1.length co40 : Value).ownBlock) (fun _ => False) rfl rfl ?aO ?aR (fun _ _ h => h) (fun _ h => h.elim) ?aF ?aB ?aS ?aL ?_; (case aR => repeat (first | exact (by repeat (first | (with_reducible exact HR253.out) | (with_reducible refine Kd.C_alloc ?_ _) | (with_reducible refine Kd.C_drewN ?_ _) | (with_reducible refine Kd.C_drew ?_) | exact HR253.out)) | (with_reducible refine Kd.C_alloc ?_ _) | (with_reducible refine Kd.C_drewN ?_ _) | (with_reducible refine Kd.C_drew ?_))); (case aB => exact (hL HB.out)); (case aF => exact (fun k_ hk => Kd.fresh' (Kd.R_lt (rL HO_3.out)) k_ hk)); (case aO => exact (rL HO249.out)); (case aS => exact (below_size (hL HB.out))); (case aL => have := LMc38.out; omega); intro v255 w44 ho hb hg hat; rw [← Ny254.out] at ho; have n0_ := Aside0.mk (Kd.R_after (ok := (fun _ => True)) (rL HO_3.out) hg hat); have n1_ := Aside0.mk (hb); have n2_ := Aside0.mk ((show Kd.C k29 w44 Ao40 y239.length y239 from by rw [Ny239.out]; exact Kd.C_take (m := (x5_2 : Int).toNat) ((Kd.R_reads' (Kd.R_after (ok := (fun _ => True)) (rL HO_3.out) hg hat)).2.2) KL39.out)); have n3_ := Aside0.mk ((show Kd.C k29 w44 A43 y250.length y250 from by rw [Ny250.out, KA43.out]; exact Kd.C_drop (m := (x5_2 : Int).toNat) (c := co40) ((Kd.R_reads' (Kd.R_after (ok := (fun _ => True)) (rL HO_3.out) hg hat)).2.2) KL43.out ((Kd.R_reads' (Kd.R_after (ok := (fun _ => True)) (rL HO_3.out) hg hat)).2.1))); have n4_ := Aside0.mk (ho); clear HO_3; clear HB; clear HR242; clear HR253; clear HO249; have HO_3 := n0_; have HB := n1_; have HR242 := n2_; have HR253 := n3_; have HO256 := n4_; clear n0_ n1_ n2_ n3_ n4_; clear ho hb hg hat))
 repeat (go_quiet (first | ((with_reducible refine gate_builtin (b := .append) (xs := #[.tmp 67, .tmp 70]) rfl ?_); at_builtin; refine Kd.R_append_rows k29 (w0 := w) w.heap.size rfl (.tmp 67) (.tmp 70) 22 29 (.agg #[(.string ⟨#[]⟩), (.int .i64 0), (.bool false)]) 32 rfl Try.underlying22 info29 rfl (by decide) (by omega) (.slice none 0 0) ([] : List (S29)) y239 _ _ _ (fun k_ => some k_ ≠ (.slice Ao40 x3_1.length co40 : Value).ownBlock) (fun _ => False) rfl rfl ?aO ?aR (fun _ _ h => h) (fun _ h => h.elim) ?aF ?aB ?aS ?aL ?_; (case aR => repeat (first | exact (by repeat (first | (with_reducible exact HR242.out) | (with_reducible refine Kd.C_alloc ?_ _) | (with_reducible refine Kd.C_drewN ?_ _) | (with_reducible refine Kd.C_drew ?_) | exact HR242.out)) | (with_reducible refine Kd.C_alloc ?_ _) | (with_reducible refine Kd.C_drewN ?_ _) | (with_reducible refine Kd.C_drew ?_))); (case aB => exact (hL HB.out)); (case aF => exact (fun k_ hk => Kd.fresh' (Kd.R_lt (rL HO_3.out)) k_ hk)); (case aO => exact ((Kd.R_nil _ _ _ _ (fun k_ => some k_ ≠ (.slice Ao40 x3_1.length co40 : Value).ownBlock)))); (case aS => exact (below_size (hL HB.out))); (case aL => have := LMc32.out; omega); intro v244 w41 ho hb hg hat; rw [← Ny243.out] at ho; have n0_ := Aside0.mk (Kd.R_after (Kd.R_apart_nil (rL HO_3.out)) hg hat); have n1_ := Aside0.mk (hb); have n2_ := Aside0.mk ((show Kd.C k29 w41 Ao40 y239.length y239 from by rw [Ny239.out]; exact Kd.C_take (m := (x5_2 : Int).toNat) ((Kd.R_reads' (Kd.R_after (Kd.R_apart_nil (rL HO_3.out)) hg hat)).2.2) KL39.out)); have n3_ := Aside0.mk (ho); clear HO_3; clear HB; clear HR242; have HO_3 := n0_; have HB := n1_; have HR242 := n2_; have HO245 := n3_; clear n0_ n1_ n2_ n3_; clear ho hb hg hat; have p246 : 0 ≤ (x4_1 : Int) := of_decide_eq_true (by first | (with_reducible assumption) | assumption); have q246 : x4_1 < (l0.length : Int) := of_decide_eq_true (by first | (with_reducible assumption) | assumption); obtain ⟨ad246, e246, hx246_0, hx246_1, hx246_2⟩ := at_T29 HR0.out x4_1 p246 q246; cases e246; replace hx246_0 := (HB.out.cell (World.block_lt_of_cell? w _ hx246_0)).trans hx246_0; replace hx246_1 := (HB.out.cell (World.block_lt_of_cell? w _ hx246_1)).trans hx246_1; replace hx246_2 := (HB.out.cell (World.block_lt_of_cell? w _ hx246_2)).trans hx246_2; replace p246 := eq_true p246; replace q246 := eq_true q246) | ((with_reducible refine gate_builtin (b := .append) (xs := #[.tmp 72, .tmp 77]) rfl ?_); at_builtin; refine Kd.R_append k29 (w0 := w) w.heap.size rfl (.tmp 72) (.tmp 77) 22 29 (.agg #[(.string ⟨#[]⟩), (.int .i64 0), (.bool false)]) 32 rfl Try.underlying22 info29 rfl (by decide) (by omega) v244 y243 (⟨(rd_T29 l0 x4_1).f0, (rd_T29 l0 x4_1).f1, (rd_T29 l0 x4_1).f2⟩ : S29) [.string ((rd_T29 l0 x4_1).f0), .int .i64 ((rd_T29 l0 x4_1).f1), .bool ((rd_T29 l0 x4_1).f2)] (fun k_ => some k_ ≠ (.slice Ao40 x3_1.length co40 : Value).ownBlock) (fun _ => False) rfl rfl ?aP (fun _ hk => hk.elim) ?aF ?aO ?aB ?aS ?aL ?_; (case aP => exact k29_mkM _ _ _ (⟨(rd_T29 l0 x4_1).f0, (rd_T29 l0 x4_1).f1, (rd_T29 l0 x4_1).f2⟩ : S29)); (case aB => exact (hL HB.out)); (case aF => exact (fun k_ hk => Kd.fresh' (Kd.R_lt (rL HO_3.out)) k_ hk)); (case aO => exact (rL HO245.out)); (case aS => exact (below_size (hL HB.out))); (case aL => have := LMc35.out; omega); intro v248 w42 ho hb hg hat; rw [← Ny247.out] at ho; have n0_ := Aside0.mk (Kd.R_after (ok := (fun _ => True)) (rL HO_3.out) hg hat); have n1_ := Aside0.mk (hb); have n2_ := Aside0.mk ((show Kd.C k29 w42 Ao40 y239.length y239 from by rw [Ny239.out]; exact Kd.C_take (m := (x5_2 : Int).toNat) ((Kd.R_reads' (Kd.R_after (ok := (fun _ => True)) (rL HO_3.out) hg hat)).2.2) KL39.out)); have n3_ := Aside0.mk (ho); clear HO_3; clear HB; clear HR242; clear HO245; have HO_3 := n0_; have HB := n1_; have HR242 := n2_; have HO249 := n3_; clear n0_ n1_ n2_ n3_; clear ho hb hg hat; have q43 : (x5_2 : Int) ≤ ((x3_1.length : Int) : Int) := of_decide_eq_true (by first | (with_reducible assumption) | assumption); obtain ⟨i043, hi043, _, hsz43, _⟩ := info_parts info29; have hroom43 : x3_1.length ≤ co40 := (Kd.R_reads' HO_3.out).2.1; have hC43 : Kd.C k29 _ Ao40 x3_1.length x3_1 := (Kd.R_reads' HO_3.out).2.2; have q043 : (0 : Int) ≤ (x5_2 : Int) := of_decide_eq_true (by first | (with_reducible assumption) | assumption); have hcut43 := cut_from (P := Try.prog) 22 29 .i64 Try.underlying22 hi043 3 hsz43 Ao40 x3_1.length co40 x5_2 q043 q43; have hr43 := Kd.C_drop (m := (x5_2 : Int).toNat) (c := co40) hC43 (by omega) hroom43; obtain ⟨A43, hA43⟩ : ∃ A1, A1 = (if co40 = (x5_2 : Int).toNat then Ao40 else (Ao40 : Option Addr).map (·.add ((x5_2 : Int).toNat * 3))) := ⟨_, rfl⟩; obtain ⟨c43, hc43⟩ : ∃ c1, c1 = co40 - (x5_2 : Int).toNat := ⟨_, rfl⟩; have hy43 : y250.length = x3_1.length - (x5_2 : Int).toNat := (by rw [Ny250.out, List.length_drop] <;> omega); rw [show (x3_1).drop (x5_2 : Int).toNat = y250 from Ny250.out.symm] at hr43; replace hr43 : Kd.C k29 _ A43 y250.length y250 := (by rw [hA43]; exact hr43); rw [← hy43, ← hA43, ← hc43] at hcut43; have HR253 := Aside0.mk hr43; have HC253 := Aside0.mk (show y250.length ≤ c43 from by rw [hy43, hc43]; exact Nat.sub_le_sub_right hroom43 _); clear hr43 hC43 hroom43 hi043 hsz43 hc43; have KY43 := Aside0.mk hy43; have KA43 := Aside0.mk hA43; clear hy43 hA43; have KL43 := Aside0.mk (show (x5_2 : Int).toNat ≤ x3_1.length from by omega); replace q43 := eq_true q43) | ((with_reducible refine gate_builtin (b := .append) (xs := #[.tmp 79, .tmp 82]) rfl ?_); at_builtin; refine Kd.R_append_rows k29 (w0 := w) w.heap.size rfl (.tmp 79) (.tmp 82) 22 29 (.agg #[(.string ⟨#[]⟩), (.int .i64 0), (.bool false)]) 32 rfl Try.underlying22 info29 rfl (by decide) (by omega) v248 y247 y250 _ _ _ (fun k_ => some k_ ≠ (.slice Ao40 x3_1.length co40 : Value).ownBlock) (fun _ => False) rfl rfl ?aO ?aR (fun _ _ h => h) (fun _ h => h.elim) ?aF ?aB ?aS ?aL ?_; (case aR => repeat (first | exact (by repeat (first | (with_reducible exact HR253.out) | (with_reducible refine Kd.C_alloc ?_ _) | (with_reducible refine Kd.C_drewN ?_ _) | (with_reducible refine Kd.C_drew ?_) | exact HR253.out)) | (with_reducible refine Kd.C_alloc ?_ _) | (with_reducible refine Kd.C_drewN ?_ _) | (with_reducible refine Kd.C_drew ?_))); (case aB => exact (hL HB.out)); (case aF => exact (fun k_ hk => Kd.fresh' (Kd.R_lt (rL HO_3.out)) k_ hk)); (case aO => exact (rL HO249.out)); (case aS => exact (below_size (hL HB.out))); (case aL => have := LMc38.out; omega); intro v255 w44 ho hb hg hat; rw [← Ny254.out] at ho; have n0_ := Aside0.mk (Kd.R_after (ok := (fun _ => True)) (rL HO_3.out) hg hat); have n1_ := Aside0.mk (hb); have n2_ := Aside0.mk ((show Kd.C k29 w44 Ao40 y239.length y239 from by rw [Ny239.out]; exact Kd.C_take (m := (x5_2 : Int).toNat) ((Kd.R_reads' (Kd.R_after (ok := (fun _ => True)) (rL HO_3.out) hg hat)).2.2) KL39.out)); have n3_ := Aside0.mk ((show Kd.C k29 w44 A43 y250.length y250 from by rw [Ny250.out, KA43.out]; exact Kd.C_drop (m := (x5_2 : Int).toNat) (c := co40) ((Kd.R_reads' (Kd.R_after (ok := (fun _ => True)) (rL HO_3.out) hg hat)).2.2) KL43.out ((Kd.R_reads' (Kd.R_after (ok := (fun _ => True)) (rL HO_3.out) hg hat)).2.1))); have n4_ := Aside0.mk (ho); clear HO_3; clear HB; clear HR242; clear HR253; clear HO249; have HO_3 := n0_; have HB := n1_; have HR242 := n2_; have HR253 := n3_; have HO256 := n4_; clear n0_ n1_ n2_ n3_ n4_; clear ho hb hg hat)); try go_wp2_with (first | ((with_reducible refine gate_builtin (b := .append) (xs := #[.tmp 67, .tmp 70]) rfl ?_); at_builtin; refine Kd.R_append_rows k29 (w0 := w) w.heap.size rfl (.tmp 67) (.tmp 70) 22 29 (.agg #[(.string ⟨#[]⟩), (.int .i64 0), (.bool false)]) 32 rfl Try.underlying22 info29 rfl (by decide) (by omega) (.slice none 0 0) ([] : List (S29)) y239 _ _ _ (fun k_ => some k_ ≠ (.slice Ao40 x3_1.length co40 : Value).ownBlock) (fun _ => False) rfl rfl ?aO ?aR (fun _ _ h => h) (fun _ h => h.elim) ?aF ?aB ?aS ?aL ?_; (case aR => repeat (first | exact (by repeat (first | (with_reducible exact HR242.out) | (with_reducible refine Kd.C_alloc ?_ _) | (with_reducible refine Kd.C_drewN ?_ _) | (with_reducible refine Kd.C_drew ?_) | exact HR242.out)) | (with_reducible refine Kd.C_alloc ?_ _) | (with_reducible refine Kd.C_drewN ?_ _) | (with_reducible refine Kd.C_drew ?_))); (case aB => exact (hL HB.out)); (case aF => exact (fun k_ hk => Kd.fresh' (Kd.R_lt (rL HO_3.out)) k_ hk)); (case aO => exact ((Kd.R_nil _ _ _ _ (fun k_ => some k_ ≠ (.slice Ao40 x3_1.length co40 : Value).ownBlock)))); (case aS => exact (below_size (hL HB.out))); (case aL => have := LMc32.out; omega); intro v244 w41 ho hb hg hat; rw [← Ny243.out] at ho; have n0_ := Aside0.mk (Kd.R_after (Kd.R_apart_nil (rL HO_3.out)) hg hat); have n1_ := Aside0.mk (hb); have n2_ := Aside0.mk ((show Kd.C k29 w41 Ao40 y239.length y239 from by rw [Ny239.out]; exact Kd.C_take (m := (x5_2 : Int).toNat) ((Kd.R_reads' (Kd.R_after (Kd.R_apart_nil (rL HO_3.out)) hg hat)).2.2) KL39.out)); have n3_ := Aside0.mk (ho); clear HO_3; clear HB; clear HR242; have HO_3 := n0_; have HB := n1_; have HR242 := n2_; have HO245 := n3_; clear n0_ n1_ n2_ n3_; clear ho hb hg hat; have p246 : 0 ≤ (x4_1 : Int) := of_decide_eq_true (by first | (with_reducible assumption) | assumption); have q246 : x4_1 < (l0.length : Int) := of_decide_eq_true (by first | (with_reducible assumption) | assumption); obtain ⟨ad246, e246, hx246_0, hx246_1, hx246_2⟩ := at_T29 HR0.out x4_1 p246 q246; cases e246; replace hx246_0 := (HB.out.cell (World.block_lt_of_cell? w _ hx246_0)).trans hx246_0; replace hx246_1 := (HB.out.cell (World.block_lt_of_cell? w _ hx246_1)).trans hx246_1; replace hx246_2 := (HB.out.cell (World.block_lt_of_cell? w _ hx246_2)).trans hx246_2; replace p246 := eq_true p246; replace q246 := eq_true q246) | ((with_reducible refine gate_builtin (b := .append) (xs := #[.tmp 72, .tmp 77]) rfl ?_); at_builtin; refine Kd.R_append k29 (w0 := w) w.heap.size rfl (.tmp 72) (.tmp 77) 22 29 (.agg #[(.string ⟨#[]⟩), (.int .i64 0), (.bool false)]) 32 rfl Try.underlying22 info29 rfl (by decide) (by omega) v244 y243 (⟨(rd_T29 l0 x4_1).f0, (rd_T29 l0 x4_1).f1, (rd_T29 l0 x4_1).f2⟩ : S29) [.string ((rd_T29 l0 x4_1).f0), .int .i64 ((rd_T29 l0 x4_1).f1), .bool ((rd_T29 l0 x4_1).f2)] (fun k_ => some k_ ≠ (.slice Ao40 x3_1.length co40 : Value).ownBlock) (fun _ => False) rfl rfl ?aP (fun _ hk => hk.elim) ?aF ?aO ?aB ?aS ?aL ?_; (case aP => exact k29_mkM _ _ _ (⟨(rd_T29 l0 x4_1).f0, (rd_T29 l0 x4_1).f1, (rd_T29 l0 x4_1).f2⟩ : S29)); (case aB => exact (hL HB.out)); (case aF => exact (fun k_ hk => Kd.fresh' (Kd.R_lt (rL HO_3.out)) k_ hk)); (case aO => exact (rL HO245.out)); (case aS => exact (below_size (hL HB.out))); (case aL => have := LMc35.out; omega); intro v248 w42 ho hb hg hat; rw [← Ny247.out] at ho; have n0_ := Aside0.mk (Kd.R_after (ok := (fun _ => True)) (rL HO_3.out) hg hat); have n1_ := Aside0.mk (hb); have n2_ := Aside0.mk ((show Kd.C k29 w42 Ao40 y239.length y239 from by rw [Ny239.out]; exact Kd.C_take (m := (x5_2 : Int).toNat) ((Kd.R_reads' (Kd.R_after (ok := (fun _ => True)) (rL HO_3.out) hg hat)).2.2) KL39.out)); have n3_ := Aside0.mk (ho); clear HO_3; clear HB; clear HR242; clear HO245; have HO_3 := n0_; have HB := n1_; have HR242 := n2_; have HO249 := n3_; clear n0_ n1_ n2_ n3_; clear ho hb hg hat; have q43 : (x5_2 : Int) ≤ ((x3_1.length : Int) : Int) := of_decide_eq_true (by first | (with_reducible assumption) | assumption); obtain ⟨i043, hi043, _, hsz43, _⟩ := info_parts info29; have hroom43 : x3_1.length ≤ co40 := (Kd.R_reads' HO_3.out).2.1; have hC43 : Kd.C k29 _ Ao40 x3_1.length x3_1 := (Kd.R_reads' HO_3.out).2.2; have q043 : (0 : Int) ≤ (x5_2 : Int) := of_decide_eq_true (by first | (with_reducible assumption) | assumption); have hcut43 := cut_from (P := Try.prog) 22 29 .i64 Try.underlying22 hi043 3 hsz43 Ao40 x3_1.length co40 x5_2 q043 q43; have hr43 := Kd.C_drop (m := (x5_2 : Int).toNat) (c := co40) hC43 (by omega) hroom43; obtain ⟨A43, hA43⟩ : ∃ A1, A1 = (if co40 = (x5_2 : Int).toNat then Ao40 else (Ao40 : Option Addr).map (·.add ((x5_2 : Int).toNat * 3))) := ⟨_, rfl⟩; obtain ⟨c43, hc43⟩ : ∃ c1, c1 = co40 - (x5_2 : Int).toNat := ⟨_, rfl⟩; have hy43 : y250.length = x3_1.length - (x5_2 : Int).toNat := (by rw [Ny250.out, List.length_drop] <;> omega); rw [show (x3_1).drop (x5_2 : Int).toNat = y250 from Ny250.out.symm] at hr43; replace hr43 : Kd.C k29 _ A43 y250.length y250 := (by rw [hA43]; exact hr43); rw [← hy43, ← hA43, ← hc43] at hcut43; have HR253 := Aside0.mk hr43; have HC253 := Aside0.mk (show y250.length ≤ c43 from by rw [hy43, hc43]; exact Nat.sub_le_sub_right hroom43 _); clear hr43 hC43 hroom43 hi043 hsz43 hc43; have KY43 := Aside0.mk hy43; have KA43 := Aside0.mk hA43; clear hy43 hA43; have KL43 := Aside0.mk (show (x5_2 : Int).toNat ≤ x3_1.length from by omega); replace q43 := eq_true q43) | ((with_reducible refine gate_builtin (b := .append) (xs := #[.tmp 79, .tmp 82]) rfl ?_); at_builtin; refine Kd.R_append_rows k29 (w0 := w) w.heap.size rfl (.tmp 79) (.tmp 82) 22 29 (.agg #[(.string ⟨#[]⟩), (.int .i64 0), (.bool false)]) 32 rfl Try.underlying22 info29 rfl (by decide) (by omega) v248 y247 y250 _ _ _ (fun k_ => some k_ ≠ (.slice Ao40 x3_1.length co40 : Value).ownBlock) (fun _ => False) rfl rfl ?aO ?aR (fun _ _ h => h) (fun _ h => h.elim) ?aF ?aB ?aS ?aL ?_; (case aR => repeat (first | exact (by repeat (first | (with_reducible exact HR253.out) | (with_reducible refine Kd.C_alloc ?_ _) | (with_reducible refine Kd.C_drewN ?_ _) | (with_reducible refine Kd.C_drew ?_) | exact HR253.out)) | (with_reducible refine Kd.C_alloc ?_ _) | (with_reducible refine Kd.C_drewN ?_ _) | (with_reducible refine Kd.C_drew ?_))); (case aB => exact (hL HB.out)); (case aF => exact (fun k_ hk => Kd.fresh' (Kd.R_lt (rL HO_3.out)) k_ hk)); (case aO => exact (rL HO249.out)); (case aS => exact (below_size (hL HB.out))); (case aL => have := LMc38.out; omega); intro v255 w44 ho hb hg hat; rw [← Ny254.out] at ho; have n0_ := Aside0.mk (Kd.R_after (ok := (fun _ => True)) (rL HO_3.out) hg hat); have n1_ := Aside0.mk (hb); have n2_ := Aside0.mk ((show Kd.C k29 w44 Ao40 y239.length y239 from by rw [Ny239.out]; exact Kd.C_take (m := (x5_2 : Int).toNat) ((Kd.R_reads' (Kd.R_after (ok := (fun _ => True)) (rL HO_3.out) hg hat)).2.2) KL39.out)); have n3_ := Aside0.mk ((show Kd.C k29 w44 A43 y250.length y250 from by rw [Ny250.out, KA43.out]; exact Kd.C_drop (m := (x5_2 : Int).toNat) (c := co40) ((Kd.R_reads' (Kd.R_after (ok := (fun _ => True)) (rL HO_3.out) hg hat)).2.2) KL43.out ((Kd.R_reads' (Kd.R_after (ok := (fun _ => True)) (rL HO_3.out) hg hat)).2.1))); have n4_ := Aside0.mk (ho); clear HO_3; clear HB; clear HR242; clear HR253; clear HO249; have HO_3 := n0_; have HB := n1_; have HR242 := n2_; have HR253 := n3_; have HO256 := n4_; clear n0_ n1_ n2_ n3_ n4_; clear ho hb hg hat)))
 go_roundg kj11
 case measure => have := HK1.out; have := HJ2.out; have := HJ11.out; omega
 case rel => exact ⟨(y254), (wrap64 (x4_1 + 1)), (by first | rfl | (simp; done) | (simp [*]; done) | (simp [ne_nil_bytes]; done) | (simp [eq_nil_bytes]; done)), H', ⟨by have := HK1.out; have := HJ2.out; have := HJ11.out; omega⟩, ⟨by (with_reducible repeat (first | apply Kd.R_alloc | apply Kd.R_drewN | apply Kd.R_drew)); exact Kd.R_mono HO256.out (fun _ hk => trivial)⟩, ⟨hL HB.out⟩⟩

end Go.Proofs.Ytdaikljbljcagaa.PAll
