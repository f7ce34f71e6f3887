-- Written by a program of this session for this claim (mp.py, over the kit's print); Lean checks it.
import Derived.Test.YthghacojbhjeaaaPKpx0
namespace Go.Proofs.Ythghacojbhjeaaa.PKp
open Go.RowKit Go.Proofs.YthghacojbhjeaaaW.PrintWords Go.Proofs.YthghacojbhjeaaaW.PrintLast Go.Proofs.YthghacojbhjeaaaW.PrintMore Go.Proofs.Ythghacojbhjeaaa.Fv Go.Proofs.Ythghacojbhjeaaa.Hl
attribute [local go_sem] max2_int min2_int max_two min_two max_three min_three max_four min_four str_gtr str_leq str_geq cell_set2   -- for this text's walks alone
set_option linter.unusedVariables false
set_option linter.unusedSimpArgs false

/-! ### pack_GetNum: function 45 -/
mutual
def pack_GetNum.j0 : Nat → List Int → Int → Int → Bool → Option (Int × Int × Int)
 | 0, _, _, _, _ => none
 | k + 1, x0, x1, x4, x16 => if x16 = true then (some (0, 0, 1)) else (if 0 ≤ x1 then (if x1 ≤ (x0.length : Int) then (pack_GetNum.l0 k x1 x4 (x0.drop (x1 : Int).toNat) ((x0.drop (x1 : Int).toNat).length : Int) 0) else (none)) else (none))
def pack_GetNum.l0 : Nat → Int → Int → List Int → Int → Int → Option (Int × Int × Int)
 | 0, _, _, _, _, _ => none
 | k + 1, x1, x4, x19, x20, x21 => if x21 < x20 then (if 0 ≤ x21 then (if x21 < (x19.length : Int) then (if 0 ≤ (wrap64 (7 * x21)) then (if (rd x19 x21) > 127 then (pack_GetNum.j2 k x1 (Go.bits .or .i64 x4 (shl .i64 (wrap64 (Go.bits .and .u8 (rd x19 x21) 127)) (wrap64 (7 * x21)))) x21 (rd x19 x21) x19 x20 x21 (x21 == 8)) else (pack_GetNum.j2 k x1 (Go.bits .or .i64 x4 (shl .i64 (wrap64 (Go.bits .and .u8 (rd x19 x21) 127)) (wrap64 (7 * x21)))) x21 (rd x19 x21) x19 x20 x21 false)) else (none)) else (none)) else (none)) else (some (0, 0, 2))
def pack_GetNum.j2 : Nat → Int → Int → Int → Int → List Int → Int → Int → Bool → Option (Int × Int × Int)
 | 0, _, _, _, _, _, _, _, _ => none
 | k + 1, x1, x4, x7, x8, x19, x20, x21, x34 => if x34 = true then (pack_GetNum.j3 k x1 x4 x7 x8 x19 x20 x21 x34) else (if x8 = 0 then (pack_GetNum.j3 k x1 x4 x7 x8 x19 x20 x21 (decide (x7 > 0))) else (pack_GetNum.j3 k x1 x4 x7 x8 x19 x20 x21 false))
def pack_GetNum.j3 : Nat → Int → Int → Int → Int → List Int → Int → Int → Bool → Option (Int × Int × Int)
 | 0, _, _, _, _, _, _, _, _ => none
 | k + 1, x1, x4, x7, x8, x19, x20, x21, x34 => if x34 = true then (some (0, 0, 3)) else (if x8 < 128 then (some (x4, wrap64 ((wrap64 (x1 + x7)) + 1), 0)) else (pack_GetNum.l0 k x1 x4 x19 x20 (wrap64 (x21 + 1))))
end
def pack_GetNum.f (k : Nat) (l0 : List Int) (a1 : Int) : Option (Int × Int × Int) := if a1 < 0 then (pack_GetNum.j0 k l0 a1 0 true) else (pack_GetNum.j0 k l0 a1 0 (decide (a1 > (l0.length : Int))))
theorem pack_GetNum.mono_l : ∀ k, (∀ y0 y1 y2 y3, LeO (pack_GetNum.j0 k y0 y1 y2 y3) (pack_GetNum.j0 (k + 1) y0 y1 y2 y3)) ∧ (∀ y0 y1 y2 y3 y4, LeO (pack_GetNum.l0 k y0 y1 y2 y3 y4) (pack_GetNum.l0 (k + 1) y0 y1 y2 y3 y4)) ∧ (∀ y0 y1 y2 y3 y4 y5 y6 y7, LeO (pack_GetNum.j2 k y0 y1 y2 y3 y4 y5 y6 y7) (pack_GetNum.j2 (k + 1) y0 y1 y2 y3 y4 y5 y6 y7)) ∧ (∀ y0 y1 y2 y3 y4 y5 y6 y7, LeO (pack_GetNum.j3 k y0 y1 y2 y3 y4 y5 y6 y7) (pack_GetNum.j3 (k + 1) y0 y1 y2 y3 y4 y5 y6 y7))
 | 0 => ⟨fun _ _ _ _ r h => by simp [pack_GetNum.j0] at h, fun _ _ _ _ _ r h => by simp [pack_GetNum.l0] at h, fun _ _ _ _ _ _ _ _ r h => by simp [pack_GetNum.j2] at h, fun _ _ _ _ _ _ _ _ r h => by simp [pack_GetNum.j3] at h⟩
 | k + 1 => by
  obtain ⟨ih0, ih1, ih2, ih3⟩ := pack_GetNum.mono_l k
  refine ⟨?_, ?_, ?_, ?_⟩
  ·intro y0 y1 y2 y3
   unfold pack_GetNum.j0
   repeat' first
   | (with_reducible exact ih0 _ _ _ _)
   | (with_reducible exact ih1 _ _ _ _ _)
   | (with_reducible exact ih2 _ _ _ _ _ _ _ _)
   | (with_reducible exact ih3 _ _ _ _ _ _ _ _)
   | (with_reducible exact LeO.refl _)
   | (with_reducible exact LeO.none _)
   | (with_reducible refine LeO.ite ?_ ?_)
   | (with_reducible refine LeO.bind ?_ (fun _ => ?_))
   | exact ih0 _ _ _ _
   | exact ih1 _ _ _ _ _
   | exact ih2 _ _ _ _ _ _ _ _
   | exact ih3 _ _ _ _ _ _ _ _
   | exact LeO.none _
   | refine LeO.ite ?_ ?_
   | refine LeO.bind ?_ (fun _ => ?_)
  ·intro y0 y1 y2 y3 y4
   unfold pack_GetNum.l0
   repeat' first
   | (with_reducible exact ih0 _ _ _ _)
   | (with_reducible exact ih1 _ _ _ _ _)
   | (with_reducible exact ih2 _ _ _ _ _ _ _ _)
   | (with_reducible exact ih3 _ _ _ _ _ _ _ _)
   | (with_reducible exact LeO.refl _)
   | (with_reducible exact LeO.none _)
   | (with_reducible refine LeO.ite ?_ ?_)
   | (with_reducible refine LeO.bind ?_ (fun _ => ?_))
   | exact ih0 _ _ _ _
   | exact ih1 _ _ _ _ _
   | exact ih2 _ _ _ _ _ _ _ _
   | exact ih3 _ _ _ _ _ _ _ _
   | exact LeO.none _
   | refine LeO.ite ?_ ?_
   | refine LeO.bind ?_ (fun _ => ?_)
  ·intro y0 y1 y2 y3 y4 y5 y6 y7
   unfold pack_GetNum.j2
   repeat' first
   | (with_reducible exact ih0 _ _ _ _)
   | (with_reducible exact ih1 _ _ _ _ _)
   | (with_reducible exact ih2 _ _ _ _ _ _ _ _)
   | (with_reducible exact ih3 _ _ _ _ _ _ _ _)
   | (with_reducible exact LeO.refl _)
   | (with_reducible exact LeO.none _)
   | (with_reducible refine LeO.ite ?_ ?_)
   | (with_reducible refine LeO.bind ?_ (fun _ => ?_))
   | exact ih0 _ _ _ _
   | exact ih1 _ _ _ _ _
   | exact ih2 _ _ _ _ _ _ _ _
   | exact ih3 _ _ _ _ _ _ _ _
   | exact LeO.none _
   | refine LeO.ite ?_ ?_
   | refine LeO.bind ?_ (fun _ => ?_)
  ·intro y0 y1 y2 y3 y4 y5 y6 y7
   unfold pack_GetNum.j3
   repeat' first
   | (with_reducible exact ih0 _ _ _ _)
   | (with_reducible exact ih1 _ _ _ _ _)
   | (with_reducible exact ih2 _ _ _ _ _ _ _ _)
   | (with_reducible exact ih3 _ _ _ _ _ _ _ _)
   | (with_reducible exact LeO.refl _)
   | (with_reducible exact LeO.none _)
   | (with_reducible refine LeO.ite ?_ ?_)
   | (with_reducible refine LeO.bind ?_ (fun _ => ?_))
   | exact ih0 _ _ _ _
   | exact ih1 _ _ _ _ _
   | exact ih2 _ _ _ _ _ _ _ _
   | exact ih3 _ _ _ _ _ _ _ _
   | exact LeO.none _
   | refine LeO.ite ?_ ?_
   | refine LeO.bind ?_ (fun _ => ?_)
theorem pack_GetNum.mono : ∀ a0 a1 k, LeO (pack_GetNum.f k a0 a1) (pack_GetNum.f (k + 1) a0 a1) := by
 intro a0 a1 k
 obtain ⟨ih0, ih1, ih2, ih3⟩ := pack_GetNum.mono_l k
 unfold pack_GetNum.f
 repeat' first
   | (with_reducible exact ih0 _ _ _ _)
   | (with_reducible exact ih1 _ _ _ _ _)
   | (with_reducible exact ih2 _ _ _ _ _ _ _ _)
   | (with_reducible exact ih3 _ _ _ _ _ _ _ _)
   | (with_reducible exact LeO.refl _)
   | (with_reducible exact LeO.none _)
   | (with_reducible refine LeO.ite ?_ ?_)
   | (with_reducible refine LeO.bind ?_ (fun _ => ?_))
   | exact ih0 _ _ _ _
   | exact ih1 _ _ _ _ _
   | exact ih2 _ _ _ _ _ _ _ _
   | exact ih3 _ _ _ _ _ _ _ _
   | exact LeO.none _
   | refine LeO.ite ?_ ?_
   | refine LeO.bind ?_ (fun _ => ?_)
set_option maxHeartbeats 8000000 in
set_option maxRecDepth 100000 in
theorem pack_GetNum.calls (k : Nat) (A0 : Option Addr) (c0 : Nat) (l0 : List Int) (a1 : Int) (r1 : Int) (r2 : Int) (r3 : Int) (w : World) (hr0 : Kd.C (Kd.int .u8) w A0 l0.length l0) (hc0 : l0.length ≤ c0) (h : pack_GetNum.f k l0 a1 = some (r1, r2, r3)) :
  Calls Try.prog 45 #[.slice A0 l0.length c0, .int .i64 a1] w fun e w' => e = .returned (.tuple #[.int .i64 r1, .int .i64 r2, .int .i64 r3]) ∧ Below w.heap.size w w' := by
 have HR0 := Aside0.mk hr0
 have HC0 := Aside0.mk hc0
 clear hr0 hc0
 have HB := Aside0.mk (Below.refl w.heap.size w)
 have H : (if a1 < 0 then (pack_GetNum.j0 k l0 a1 0 true) else (pack_GetNum.j0 k l0 a1 0 (decide (a1 > (l0.length : Int))))) = some (r1, r2, r3) := h
 clear h
 have HC3 := Aside0.mk H
 clear H
 go_enter Try.func45, Try.ntmps45
 go_upto_region 1 with (fail)
 go_cut [16] (fun v16 wc => ∃ (kq : Nat) (x16_2 : Bool), v16 = .bool x16_2 ∧ Aside0 (pack_GetNum.j0 kq l0 a1 0 x16_2 = some (r1, r2, r3)) ∧ Aside0 (kq ≤ k) ∧ Aside0 (Below w.heap.size w wc))
 case first =>
  have H := HC3.out
  clear HC3
  by_cases c4 : a1 < 0
  ·rw [if_pos c4] at H
   have c4b0 : decide (a1 < 0) = true := decide_eq_true c4
   clear c4
   (first | rw [c4b0] | (simp only [i64_w, i32_w]; rw [c4b0]) | skip)
   have H' := Aside0.mk H
   clear H
   go_wp2
   go_meet
   case rel => exact ⟨_, (true), (by first | rfl | (simp; done) | (simp [*]; done) | (simp [ne_nil_bytes]; done) | (simp [eq_nil_bytes]; done)), H', ⟨by first | omega | exact Nat.le_refl _⟩, ⟨hL HB.out⟩⟩
  rw [if_neg c4] at H
  have c4b0 : decide (a1 < 0) = false := decide_eq_false c4
  clear c4
  (first | rw [c4b0] | (simp only [i64_w, i32_w]; rw [c4b0]) | skip)
  have H' := Aside0.mk H
  clear H
  go_wp2
  go_meet
  case rel => exact ⟨_, (decide (a1 > (l0.length : Int))), (by first | rfl | (simp; done) | (simp [*]; done) | (simp [ne_nil_bytes]; done) | (simp [eq_nil_bytes]; done)), H', ⟨by first | omega | exact Nat.le_refl _⟩, ⟨hL HB.out⟩⟩
 clear HC3
 try clear p2
 try clear c4
 try clear c4b0
 try clear c4b0z
 obtain ⟨kq, x16_2, rfl, HA, HJ2, HB⟩ := hcut
 rcases kq with _ | kj2
 ·exact absurd HA.out (by simp [pack_GetNum.j0])
 have H := HA.out
 clear HA
 simp only [pack_GetNum.j0] at H
 by_cases c5 : x16_2 = true
 ·subst c5
  have H1 : (some (0, 0, 1)) = some (r1, r2, r3) := by rw [if_pos rfl] at H; exact H
  clear H
  have H := H1
  clear H1
  simp only [Option.some.injEq, Prod.mk.injEq] at H
  obtain ⟨rfl, rfl, rfl⟩ := H
  go_wp2
  go_ret3
  exact ⟨by first | rfl | (simp [errW_none, errW_some] <;> rfl) | (simp [*, errW_none, errW_some] <;> rfl), hL HB.out⟩
 replace c5 := Bool.eq_false_iff.mpr c5
 subst c5
 have H1 : (if 0 ≤ a1 then (if a1 ≤ (l0.length : Int) then (pack_GetNum.l0 kj2 a1 0 (l0.drop (a1 : Int).toNat) ((l0.drop (a1 : Int).toNat).length : Int) 0) else (none)) else (none)) = some (r1, r2, r3) := by rw [if_neg (show ¬ (false = true) by decide)] at H; exact H
 clear H
 have H := H1
 clear H1
 by_cases c6 : 0 ≤ a1
 rotate_left
 ·rw [if_neg c6] at H
  exact absurd H (by simp)
 rw [if_pos c6] at H
 have c6b0 := eq_true c6
 have c6b1 : decide (0 ≤ a1) = true := decide_eq_true c6
 clear c6
 by_cases c7 : a1 ≤ (l0.length : Int)
 rotate_left
 ·rw [if_neg c7] at H
  exact absurd H (by simp)
 rw [if_pos c7] at H
 have c7b0 := eq_true c7
 have c7b1 : decide (a1 ≤ (l0.length : Int)) = true := decide_eq_true c7
 clear c7
 have H' := Aside0.mk H
 clear H
 obtain ⟨i08, hi08, _, hsz8, _⟩ := info_parts info5
 obtain ⟨A8, hcut8, hA8, hC8⟩ := print_drop_of (P := Try.prog) (Value.int .u8) 0 43 5 .i64 Try.underlying43 hi08 hsz8 A0 c0 l0 a1 (of_decide_eq_true (by first | (with_reducible assumption) | assumption)) (of_decide_eq_true (by first | (with_reducible assumption) | assumption)) HC0.out
 have HR165 := Aside0.mk (Kd.C_of_reads (h1 := fun _ => rfl) (hA8 _ (Kd.reads_of_C HR0.out)))
 have HC165 := Aside0.mk hC8
 clear hA8 hC8 hi08 hsz8
 generalize hy8_ : l0.drop (a1 : Int).toNat = y8_ at *
 have HY8_ := Aside0.mk hy8_
 clear hy8_
 go_wp2
 go_loopg [4, 21] kj2 (fun kq v4 v21 w' => ∃ (x4_2 : Int) (x21_2 : Int), v4 = .int .i64 x4_2 ∧ v21 = .int .i64 x21_2 ∧ Aside0 (pack_GetNum.l0 kq a1 x4_2 y8_ (y8_.length : Int) x21_2 = some (r1, r2, r3)) ∧ Aside0 (kq ≤ kj2) ∧ Aside0 (Below w.heap.size w w'))
 case atStart => exact ⟨(0), (0), (by first | rfl | (simp; done) | (simp [*]; done) | (simp [ne_nil_bytes]; done) | (simp [eq_nil_bytes]; done)), (by first | rfl | (simp; done) | (simp [*]; done) | (simp [ne_nil_bytes]; done) | (simp [eq_nil_bytes]; done)), H', ⟨Nat.le_refl _⟩, ⟨hL HB.out⟩⟩
 clear H'
 try clear p2
 try clear c4
 try clear c4b0
 try clear c4b0z
 try clear c5
 try clear c6
 try clear c6b0
 try clear c6b0z
 try clear c6b1
 try clear c6b1z
 try clear c7
 try clear c7b0
 try clear c7b0z
 try clear c7b1
 try clear c7b1z
 try clear p2
 obtain ⟨x4_2, x21_2, rfl, rfl, HA, HK2, HB⟩ := hrel
 rcases gk with _ | k2
 ·exact absurd HA.out (by simp [pack_GetNum.l0])
 have H := HA.out
 clear HA
 simp only [pack_GetNum.l0] at H
 by_cases c9 : x21_2 < (y8_.length : Int)
 rotate_left
 ·rw [if_neg c9] at H
  have c9b0 : decide (x21_2 < (y8_.length : Int)) = false := decide_eq_false c9
  clear c9
  simp only [Option.some.injEq, Prod.mk.injEq] at H
  obtain ⟨rfl, rfl, rfl⟩ := H
  go_wp2
  go_ret3
  exact ⟨by first | rfl | (simp [errW_none, errW_some] <;> rfl) | (simp [*, errW_none, errW_some] <;> rfl), hL HB.out⟩
 rw [if_pos c9] at H
 have c9b0 : decide (x21_2 < (y8_.length : Int)) = true := decide_eq_true c9
 clear c9
 by_cases c10 : 0 ≤ x21_2
 rotate_left
 ·rw [if_neg c10] at H
  exact absurd H (by simp)
 rw [if_pos c10] at H
 have c10b0 : decide (0 ≤ x21_2) = true := decide_eq_true c10
 clear c10
 by_cases c11 : x21_2 < (y8_.length : Int)
 rotate_left
 ·rw [if_neg c11] at H
  exact absurd H (by simp)
 rw [if_pos c11] at H
 have c11b0 : decide (x21_2 < (y8_.length : Int)) = true := decide_eq_true c11
 clear c11
 obtain ⟨ji12, hji12⟩ : ∃ j_ : Int, (wrap64 (7 * x21_2)) = j_ := ⟨_, rfl⟩
 replace H : (if 0 ≤ (ji12) then (if (rd y8_ x21_2) > 127 then (pack_GetNum.j2 k2 a1 (Go.bits .or .i64 x4_2 (shl .i64 (wrap64 (Go.bits .and .u8 (rd y8_ x21_2) 127)) (ji12))) x21_2 (rd y8_ x21_2) y8_ (y8_.length : Int) x21_2 (x21_2 == 8)) else (pack_GetNum.j2 k2 a1 (Go.bits .or .i64 x4_2 (shl .i64 (wrap64 (Go.bits .and .u8 (rd y8_ x21_2) 127)) (ji12))) x21_2 (rd y8_ x21_2) y8_ (y8_.length : Int) x21_2 false)) else (none)) = some (r1, r2, r3) := by first | (rw [hji12] at H; exact H) | (simp only [hji12] at H ⊢; exact H)
 have hji12w : (IntKind.i64.wrap (7 * x21_2)) = ji12 := (i64_w _).trans hji12
 by_cases c13 : 0 ≤ (ji12)
 rotate_left
 ·rw [if_neg c13] at H
  exact absurd H (by simp)
 rw [if_pos c13] at H
 have c13b0 := eq_true c13
 have c13b1 : decide (0 ≤ (ji12)) = true := decide_eq_true c13
 clear c13
 obtain ⟨ji14, hji14⟩ : ∃ j_ : Int, (shl .i64 (wrap64 (Go.bits .and .u8 (rd y8_ x21_2) 127)) (ji12)) = j_ := ⟨_, rfl⟩
 replace H : (if (rd y8_ x21_2) > 127 then (pack_GetNum.j2 k2 a1 (Go.bits .or .i64 x4_2 (ji14)) x21_2 (rd y8_ x21_2) y8_ (y8_.length : Int) x21_2 (x21_2 == 8)) else (pack_GetNum.j2 k2 a1 (Go.bits .or .i64 x4_2 (ji14)) x21_2 (rd y8_ x21_2) y8_ (y8_.length : Int) x21_2 false)) = some (r1, r2, r3) := by first | (rw [hji14] at H; exact H) | (simp only [hji14] at H ⊢; exact H)
 have hji14_ : (IntKind.i64.wrap ((wrap64 (Go.bits .and .u8 (rd y8_ x21_2) 127)) * 2 ^ min (ji12).toNat 64)) = ji14 := hji14
 have hji14z : (ji12) ≤ 64 → (IntKind.i64.wrap ((wrap64 (Go.bits .and .u8 (rd y8_ x21_2) 127)) * 2 ^ (ji12).toNat)) = ji14 := shl_small hji14
 have hji14y : (wrap64 ((wrap64 (Go.bits .and .u8 (rd y8_ x21_2) 127)) * 2 ^ min (ji12).toNat 64)) = ji14 := (i64_w _).symm.trans hji14_
 have hji14x : (ji12) ≤ 64 → (wrap64 ((wrap64 (Go.bits .and .u8 (rd y8_ x21_2) 127)) * 2 ^ (ji12).toNat)) = ji14 := fun h_ => (i64_w _).symm.trans (hji14z h_)
 have HC15 := Aside0.mk H
 clear H
 have p166 : 0 ≤ (x21_2 : Int) := of_decide_eq_true (by first | (with_reducible assumption) | assumption)
 have q166 : x21_2 < (y8_.length : Int) := of_decide_eq_true (by first | (with_reducible assumption) | assumption)
 obtain ⟨ad166, e166, hx166_0⟩ := Kd.at_int HR165.out x21_2 p166 q166
 cases e166
 replace hx166_0 := (HB.out.cell (World.block_lt_of_cell? w _ hx166_0)).trans hx166_0
 replace p166 := eq_true p166
 replace q166 := eq_true q166
 go_upto_region 7 with (fail)
 go_cut [34] (fun v34 wc => ∃ (kq : Nat) (x34_14 : Bool), v34 = .bool x34_14 ∧ Aside0 (pack_GetNum.j2 kq a1 (Go.bits .or .i64 x4_2 (ji14)) x21_2 (rd y8_ x21_2) y8_ (y8_.length : Int) x21_2 x34_14 = some (r1, r2, r3)) ∧ Aside0 (kq ≤ k2) ∧ Aside0 (Below w.heap.size w wc))
 case first =>
  have H := HC15.out
  clear HC15
  by_cases c16 : (rd y8_ x21_2) > 127
  rotate_left
  ·rw [if_neg c16] at H
   have c16b0 : decide (127 < (rd y8_ x21_2)) = false := decide_eq_false c16
   clear c16
   (first | rw [c16b0] | (simp only [i64_w, i32_w]; rw [c16b0]) | skip)
   have H' := Aside0.mk H
   clear H
   go_wp2
   go_meet
   case rel => exact ⟨_, (false), (by first | rfl | (simp; done) | (simp [*]; done) | (simp [ne_nil_bytes]; done) | (simp [eq_nil_bytes]; done)), H', ⟨by have := HJ2.out; have := HK2.out; first | omega | exact Nat.le_refl _⟩, ⟨hL HB.out⟩⟩
  rw [if_pos c16] at H
  have c16b0 : decide (127 < (rd y8_ x21_2)) = true := decide_eq_true c16
  clear c16
  (first | rw [c16b0] | (simp only [i64_w, i32_w]; rw [c16b0]) | skip)
  have H' := Aside0.mk H
  clear H
  go_wp2
  go_meet
  case rel => exact ⟨_, ((x21_2 == 8)), (by first | rfl | (simp; done) | (simp [*]; done) | (simp [ne_nil_bytes]; done) | (simp [eq_nil_bytes]; done)), H', ⟨by have := HJ2.out; have := HK2.out; first | omega | exact Nat.le_refl _⟩, ⟨hL HB.out⟩⟩
 clear HC15
 try clear c1
 try clear p1
 try clear q1
 try clear hx1
 try clear p2
 try clear c4
 try clear c4b0
 try clear c4b0z
 try clear c5
 try clear c6
 try clear c6b0
 try clear c6b0z
 try clear c6b1
 try clear c6b1z
 try clear p6
 try clear c7
 try clear c7b0
 try clear c7b0z
 try clear c7b1
 try clear c7b1z
 try clear c9
 try clear c9b0
 try clear c9b0z
 try clear c10
 try clear c10b0
 try clear c10b0z
 try clear c11
 try clear c11b0
 try clear c11b0z
 try clear c13
 try clear c13b0
 try clear c13b0z
 try clear c13b1
 try clear c13b1z
 try clear c16
 try clear c16b0
 try clear c16b0z
 try clear p16
 try clear q16
 try clear hx16
 try clear hx166_0
 try clear p166
 try clear p2
 try clear q166
 obtain ⟨kq, x34_14, rfl, HA, HJ14, HB⟩ := hcut
 rcases kq with _ | kj14
 ·exact absurd HA.out (by simp [pack_GetNum.j2])
 have H := HA.out
 clear HA
 simp only [pack_GetNum.j2] at H
 have HC17 := Aside0.mk H
 clear H
 go_upto_if 34 with (fail)
 go_cut [34] (fun v34 wc => ∃ (kq : Nat) (x34_16 : Bool), v34 = .bool x34_16 ∧ Aside0 (pack_GetNum.j3 kq a1 (Go.bits .or .i64 x4_2 (ji14)) x21_2 (rd y8_ x21_2) y8_ (y8_.length : Int) x21_2 x34_16 = some (r1, r2, r3)) ∧ Aside0 (kq ≤ kj14) ∧ Aside0 (Below w.heap.size w wc))
 case first =>
  have H := HC17.out
  clear HC17
  by_cases c18 : x34_14 = true
  ·subst c18
   have H1 : (pack_GetNum.j3 kj14 a1 (Go.bits .or .i64 x4_2 (ji14)) x21_2 (rd y8_ x21_2) y8_ (y8_.length : Int) x21_2 true) = some (r1, r2, r3) := by rw [if_pos rfl] at H; exact H
   clear H
   have H := H1
   clear H1
   have H' := Aside0.mk H
   clear H
   go_wp2
   go_meet
   case rel => exact ⟨_, (true), (by first | rfl | (simp; done) | (simp [*]; done) | (simp [ne_nil_bytes]; done) | (simp [eq_nil_bytes]; done)), H', ⟨by have := HJ2.out; have := HK2.out; have := HJ14.out; first | omega | exact Nat.le_refl _⟩, ⟨hL HB.out⟩⟩
  replace c18 := Bool.eq_false_iff.mpr c18
  subst c18
  have H1 : (if (rd y8_ x21_2) = 0 then (pack_GetNum.j3 kj14 a1 (Go.bits .or .i64 x4_2 (ji14)) x21_2 (rd y8_ x21_2) y8_ (y8_.length : Int) x21_2 (decide (x21_2 > 0))) else (pack_GetNum.j3 kj14 a1 (Go.bits .or .i64 x4_2 (ji14)) x21_2 (rd y8_ x21_2) y8_ (y8_.length : Int) x21_2 false)) = some (r1, r2, r3) := by rw [if_neg (show ¬ (false = true) by decide)] at H; exact H
  clear H
  have H := H1
  clear H1
  by_cases c19 : (rd y8_ x21_2) = 0
  rotate_left
  ·rw [if_neg c19] at H
   have c19b0 : ((rd y8_ x21_2) == 0) = false := beq_eq_false_iff_ne.mpr c19
   have c19b1 : ((rd y8_ x21_2) != 0) = true := bne_iff_ne.mpr c19
   (first | rw [c19b0] | (simp only [i64_w, i32_w]; rw [c19b0]) | skip)
   have H' := Aside0.mk H
   clear H
   go_wp2
   go_meet
   case rel => exact ⟨_, (false), (by first | rfl | (simp; done) | (simp [*]; done) | (simp [ne_nil_bytes]; done) | (simp [eq_nil_bytes]; done)), H', ⟨by have := HJ2.out; have := HK2.out; have := HJ14.out; first | omega | exact Nat.le_refl _⟩, ⟨hL HB.out⟩⟩
  rw [if_pos c19] at H
  have c19b0 : ((rd y8_ x21_2) == 0) = true := beq_iff_eq.mpr c19
  have c19b1 : ((rd y8_ x21_2) != 0) = false := bne_eq_false_iff_eq.mpr c19
  clear c19
  (first | rw [c19b0] | (simp only [i64_w, i32_w]; rw [c19b0]) | skip)
  have H' := Aside0.mk H
  clear H
  go_wp2
  go_meet
  case rel => exact ⟨_, (decide (x21_2 > 0)), (by first | rfl | (simp; done) | (simp [*]; done) | (simp [ne_nil_bytes]; done) | (simp [eq_nil_bytes]; done)), H', ⟨by have := HJ2.out; have := HK2.out; have := HJ14.out; first | omega | exact Nat.le_refl _⟩, ⟨hL HB.out⟩⟩
 clear HC17
 try clear c1
 try clear p1
 try clear q1
 try clear hx1
 try clear p2
 try clear c4
 try clear c4b0
 try clear c4b0z
 try clear c5
 try clear c6
 try clear c6b0
 try clear c6b0z
 try clear c6b1
 try clear c6b1z
 try clear p6
 try clear c7
 try clear c7b0
 try clear c7b0z
 try clear c7b1
 try clear c7b1z
 try clear c9
 try clear c9b0
 try clear c9b0z
 try clear c10
 try clear c10b0
 try clear c10b0z
 try clear c11
 try clear c11b0
 try clear c11b0z
 try clear c13
 try clear c13b0
 try clear c13b0z
 try clear c13b1
 try clear c13b1z
 try clear c16
 try clear c16b0
 try clear c16b0z
 try clear p16
 try clear q16
 try clear hx16
 try clear c18
 try clear c19
 try clear c19b0
 try clear c19b0z
 try clear c19b1
 try clear c19b1z
 try clear hx166_0
 try clear p1
 try clear p16
 try clear p166
 try clear p2
 try clear p6
 try clear q1
 try clear q16
 try clear q166
 obtain ⟨kq, x34_16, rfl, HA, HJ16, HB⟩ := hcut
 rcases kq with _ | kj16
 ·exact absurd HA.out (by simp [pack_GetNum.j3])
 have H := HA.out
 clear HA
 simp only [pack_GetNum.j3] at H
 by_cases c20 : x34_16 = true
 ·subst c20
  have H1 : (some (0, 0, 3)) = some (r1, r2, r3) := by rw [if_pos rfl] at H; exact H
  clear H
  have H := H1
  clear H1
  simp only [Option.some.injEq, Prod.mk.injEq] at H
  obtain ⟨rfl, rfl, rfl⟩ := H
  go_wp2
  go_ret3
  exact ⟨by first | rfl | (simp [errW_none, errW_some] <;> rfl) | (simp only [← hji12, ← hji14]; first | rfl | (simp [errW_none, errW_some] <;> rfl)) | (simp [*, errW_none, errW_some] <;> rfl), hL HB.out⟩
 replace c20 := Bool.eq_false_iff.mpr c20
 subst c20
 have H1 : (if (rd y8_ x21_2) < 128 then (some ((Go.bits .or .i64 x4_2 (ji14)), wrap64 ((wrap64 (a1 + x21_2)) + 1), 0)) else (pack_GetNum.l0 kj16 a1 (Go.bits .or .i64 x4_2 (ji14)) y8_ (y8_.length : Int) (wrap64 (x21_2 + 1)))) = some (r1, r2, r3) := by rw [if_neg (show ¬ (false = true) by decide)] at H; exact H
 clear H
 have H := H1
 clear H1
 by_cases c21 : (rd y8_ x21_2) < 128
 ·rw [if_pos c21] at H
  have c21b0 : decide ((rd y8_ x21_2) < 128) = true := decide_eq_true c21
  clear c21
  simp only [Option.some.injEq, Prod.mk.injEq] at H
  obtain ⟨rfl, rfl, rfl⟩ := H
  go_wp2
  go_ret3
  exact ⟨by first | rfl | (simp [errW_none, errW_some] <;> rfl) | (simp only [← hji12, ← hji14]; first | rfl | (simp [errW_none, errW_some] <;> rfl)) | (simp [*, errW_none, errW_some] <;> rfl), hL HB.out⟩
 rw [if_neg c21] at H
 have c21b0 : decide ((rd y8_ x21_2) < 128) = false := decide_eq_false c21
 clear c21
 have H' := Aside0.mk H
 clear H
 go_wp2
 go_roundg kj16
 case measure => have := HJ2.out; have := HK2.out; have := HJ14.out; have := HJ16.out; omega
 case rel => exact ⟨((Go.bits .or .i64 x4_2 (ji14))), (wrap64 (x21_2 + 1)), (by first | rfl | (simp; done) | (simp only [← hji14] <;> (first | rfl | simp)) | (simp [*]; done)), (by first | rfl | (simp; done) | (simp [*]; done) | (simp [ne_nil_bytes]; done) | (simp [eq_nil_bytes]; done)), H', ⟨by have := HJ2.out; have := HK2.out; have := HJ14.out; have := HJ16.out; omega⟩, ⟨hL HB.out⟩⟩

end Go.Proofs.Ythghacojbhjeaaa.PKp
