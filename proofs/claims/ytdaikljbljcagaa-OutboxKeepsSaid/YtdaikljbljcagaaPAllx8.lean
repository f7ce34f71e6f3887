-- Written by a program of this session for this claim (mp.py, over the kit's print); Lean checks it.
import Derived.Test.YtdaikljbljcagaaPAllx0
import Derived.Test.YtdaikljbljcagaaPAllx6
import Derived.Test.YtdaikljbljcagaaPAllx7
namespace Go.Proofs.Ytdaikljbljcagaa.PAll
open Go.RowKit Go.Proofs.YtdaikljbljcagaaW.PrintWords Go.Proofs.YtdaikljbljcagaaW.PrintLast Go.Proofs.YtdaikljbljcagaaW.PrintMore Go.Proofs.Ytdaikljbljcagaa.Fv Go.Proofs.Ytdaikljbljcagaa.Hl
attribute [local go_sem] max2_int min2_int max_two min_two max_three min_three max_four min_four str_gtr str_leq str_geq cell_set2   -- for this text's walks alone
set_option linter.unusedVariables false
set_option linter.unusedSimpArgs false


/-! ### slices_symMergeCmpFunc_api_Intent_at_outbox_Latest_1: function 72 -/
mutual
def slices_symMergeCmpFunc_api_Intent_at_outbox_Latest_1.l0 : Nat → List (S29) → Int → Int → Int → Option ((List (S29)))
 | 0, _, _, _, _ => none
 | k + 1, x0, x1, x10, x11 => if x10 < x11 then (if 0 ≤ (wrap64 ((IntKind.u64.wrap (wrap64 (x10 + x11))) / 2)) then (if (wrap64 ((IntKind.u64.wrap (wrap64 (x10 + x11))) / 2)) < (x0.length : Int) then (if 0 ≤ x1 then (if x1 < (x0.length : Int) then ((outbox_Latest_1_v40.f k ((rd_T29 x0 (wrap64 ((IntKind.u64.wrap (wrap64 (x10 + x11))) / 2))).f0) ((rd_T29 x0 (wrap64 ((IntKind.u64.wrap (wrap64 (x10 + x11))) / 2))).f1) ((rd_T29 x0 (wrap64 ((IntKind.u64.wrap (wrap64 (x10 + x11))) / 2))).f2) ((rd_T29 x0 x1).f0) ((rd_T29 x0 x1).f1) ((rd_T29 x0 x1).f2)).bind fun t145 => (if t145 < 0 then (slices_symMergeCmpFunc_api_Intent_at_outbox_Latest_1.l0 k x0 x1 (wrap64 ((wrap64 ((IntKind.u64.wrap (wrap64 (x10 + x11))) / 2)) + 1)) x11) else (slices_symMergeCmpFunc_api_Intent_at_outbox_Latest_1.l0 k x0 x1 x10 (wrap64 ((IntKind.u64.wrap (wrap64 (x10 + x11))) / 2))))) else (none)) else (none)) else (none)) else (none)) else (slices_symMergeCmpFunc_api_Intent_at_outbox_Latest_1.l1 k x0 x10 x1)
def slices_symMergeCmpFunc_api_Intent_at_outbox_Latest_1.l1 : Nat → List (S29) → Int → Int → Option ((List (S29)))
 | 0, _, _, _ => none
 | k + 1, x0, x10, x13 => if x13 < (wrap64 (x10 - 1)) then (if 0 ≤ (wrap64 (x13 + 1)) then (if (wrap64 (x13 + 1)) < (x0.length : Int) then (if 0 ≤ x13 then (if x13 < (x0.length : Int) then (slices_symMergeCmpFunc_api_Intent_at_outbox_Latest_1.l1 k ((x0.set (x13 : Int).toNat (⟨(rd_T29 x0 (wrap64 (x13 + 1))).f0, (rd_T29 x0 (wrap64 (x13 + 1))).f1, (rd_T29 x0 (wrap64 (x13 + 1))).f2⟩ : S29)).set ((wrap64 (x13 + 1)) : Int).toNat (⟨(rd_T29 x0 x13).f0, (rd_T29 x0 x13).f1, (rd_T29 x0 x13).f2⟩ : S29)) x10 (wrap64 (x13 + 1))) else (none)) else (none)) else (none)) else (none)) else (some x0)
def slices_symMergeCmpFunc_api_Intent_at_outbox_Latest_1.l2 : Nat → List (S29) → Int → Int → Int → Option ((List (S29)))
 | 0, _, _, _, _ => none
 | k + 1, x0, x2, x14, x15 => if x14 < x15 then (if 0 ≤ x2 then (if x2 < (x0.length : Int) then (if 0 ≤ (wrap64 ((IntKind.u64.wrap (wrap64 (x14 + x15))) / 2)) then (if (wrap64 ((IntKind.u64.wrap (wrap64 (x14 + x15))) / 2)) < (x0.length : Int) then ((outbox_Latest_1_v92.f k ((rd_T29 x0 x2).f0) ((rd_T29 x0 x2).f1) ((rd_T29 x0 x2).f2) ((rd_T29 x0 (wrap64 ((IntKind.u64.wrap (wrap64 (x14 + x15))) / 2))).f0) ((rd_T29 x0 (wrap64 ((IntKind.u64.wrap (wrap64 (x14 + x15))) / 2))).f1) ((rd_T29 x0 (wrap64 ((IntKind.u64.wrap (wrap64 (x14 + x15))) / 2))).f2)).bind fun t152 => (if t152 < 0 then (slices_symMergeCmpFunc_api_Intent_at_outbox_Latest_1.l2 k x0 x2 x14 (wrap64 ((IntKind.u64.wrap (wrap64 (x14 + x15))) / 2))) else (slices_symMergeCmpFunc_api_Intent_at_outbox_Latest_1.l2 k x0 x2 (wrap64 ((wrap64 ((IntKind.u64.wrap (wrap64 (x14 + x15))) / 2)) + 1)) x15))) else (none)) else (none)) else (none)) else (none)) else (slices_symMergeCmpFunc_api_Intent_at_outbox_Latest_1.l3 k x0 x14 x2)
def slices_symMergeCmpFunc_api_Intent_at_outbox_Latest_1.l3 : Nat → List (S29) → Int → Int → Option ((List (S29)))
 | 0, _, _, _ => none
 | k + 1, x0, x14, x17 => if x17 > x14 then (if 0 ≤ (wrap64 (x17 - 1)) then (if (wrap64 (x17 - 1)) < (x0.length : Int) then (if 0 ≤ x17 then (if x17 < (x0.length : Int) then (slices_symMergeCmpFunc_api_Intent_at_outbox_Latest_1.l3 k ((x0.set (x17 : Int).toNat (⟨(rd_T29 x0 (wrap64 (x17 - 1))).f0, (rd_T29 x0 (wrap64 (x17 - 1))).f1, (rd_T29 x0 (wrap64 (x17 - 1))).f2⟩ : S29)).set ((wrap64 (x17 - 1)) : Int).toNat (⟨(rd_T29 x0 x17).f0, (rd_T29 x0 x17).f1, (rd_T29 x0 x17).f2⟩ : S29)) x14 (wrap64 (x17 - 1))) else (none)) else (none)) else (none)) else (none)) else (some x0)
def slices_symMergeCmpFunc_api_Intent_at_outbox_Latest_1.j4 : Nat → List (S29) → Int → Int → Int → Int → Int → Int → Int → Option ((List (S29)))
 | 0, _, _, _, _, _, _, _, _ => none
 | k + 1, x0, x1, x2, x3, x18, x19, x20, x21 => slices_symMergeCmpFunc_api_Intent_at_outbox_Latest_1.l4 k x0 x1 x2 x3 x18 x19 x20 x21 (wrap64 (x19 - 1))
def slices_symMergeCmpFunc_api_Intent_at_outbox_Latest_1.l4 : Nat → List (S29) → Int → Int → Int → Int → Int → Int → Int → Int → Option ((List (S29)))
 | 0, _, _, _, _, _, _, _, _, _ => none
 | k + 1, x0, x1, x2, x3, x18, x19, x20, x21, x22 => if x20 < x21 then (if 0 ≤ (wrap64 (x22 - (wrap64 ((IntKind.u64.wrap (wrap64 (x20 + x21))) / 2)))) then (if (wrap64 (x22 - (wrap64 ((IntKind.u64.wrap (wrap64 (x20 + x21))) / 2)))) < (x0.length : Int) then (if 0 ≤ (wrap64 ((IntKind.u64.wrap (wrap64 (x20 + x21))) / 2)) then (if (wrap64 ((IntKind.u64.wrap (wrap64 (x20 + x21))) / 2)) < (x0.length : Int) then ((outbox_Latest_1_v158.f k ((rd_T29 x0 (wrap64 (x22 - (wrap64 ((IntKind.u64.wrap (wrap64 (x20 + x21))) / 2))))).f0) ((rd_T29 x0 (wrap64 (x22 - (wrap64 ((IntKind.u64.wrap (wrap64 (x20 + x21))) / 2))))).f1) ((rd_T29 x0 (wrap64 (x22 - (wrap64 ((IntKind.u64.wrap (wrap64 (x20 + x21))) / 2))))).f2) ((rd_T29 x0 (wrap64 ((IntKind.u64.wrap (wrap64 (x20 + x21))) / 2))).f0) ((rd_T29 x0 (wrap64 ((IntKind.u64.wrap (wrap64 (x20 + x21))) / 2))).f1) ((rd_T29 x0 (wrap64 ((IntKind.u64.wrap (wrap64 (x20 + x21))) / 2))).f2)).bind fun t159 => (if t159 < 0 then (slices_symMergeCmpFunc_api_Intent_at_outbox_Latest_1.l4 k x0 x1 x2 x3 x18 x19 x20 (wrap64 ((IntKind.u64.wrap (wrap64 (x20 + x21))) / 2)) x22) else (slices_symMergeCmpFunc_api_Intent_at_outbox_Latest_1.l4 k x0 x1 x2 x3 x18 x19 (wrap64 ((wrap64 ((IntKind.u64.wrap (wrap64 (x20 + x21))) / 2)) + 1)) x21 x22))) else (none)) else (none)) else (none)) else (none)) else (if x20 < x2 then (slices_symMergeCmpFunc_api_Intent_at_outbox_Latest_1.j6 k x0 x1 x2 x3 x18 x20 (wrap64 (x19 - x20)) (decide (x2 < (wrap64 (x19 - x20))))) else (slices_symMergeCmpFunc_api_Intent_at_outbox_Latest_1.j6 k x0 x1 x2 x3 x18 x20 (wrap64 (x19 - x20)) false))
def slices_symMergeCmpFunc_api_Intent_at_outbox_Latest_1.j6 : Nat → List (S29) → Int → Int → Int → Int → Int → Int → Bool → Option ((List (S29)))
 | 0, _, _, _, _, _, _, _, _ => none
 | k + 1, x0, x1, x2, x3, x18, x20, x24, x185 => if x185 = true then ((slices_rotateCmpFunc_api_Intent_at_outbox_Latest_1.f k x0 x20 x2 x24).bind fun t160 => (slices_symMergeCmpFunc_api_Intent_at_outbox_Latest_1.j7 k t160 x1 x3 x18 x20 x24)) else (slices_symMergeCmpFunc_api_Intent_at_outbox_Latest_1.j7 k x0 x1 x3 x18 x20 x24)
def slices_symMergeCmpFunc_api_Intent_at_outbox_Latest_1.j7 : Nat → List (S29) → Int → Int → Int → Int → Int → Option ((List (S29)))
 | 0, _, _, _, _, _, _ => none
 | k + 1, x0, x1, x3, x18, x20, x24 => if x1 < x20 then (slices_symMergeCmpFunc_api_Intent_at_outbox_Latest_1.j8 k x0 x1 x3 x18 x20 x24 (decide (x20 < x18))) else (slices_symMergeCmpFunc_api_Intent_at_outbox_Latest_1.j8 k x0 x1 x3 x18 x20 x24 false)
def slices_symMergeCmpFunc_api_Intent_at_outbox_Latest_1.j8 : Nat → List (S29) → Int → Int → Int → Int → Int → Bool → Option ((List (S29)))
 | 0, _, _, _, _, _, _, _ => none
 | k + 1, x0, x1, x3, x18, x20, x24, x199 => if x199 = true then ((slices_symMergeCmpFunc_api_Intent_at_outbox_Latest_1.f k x0 x1 x20 x18).bind fun t161 => (if x18 < x24 then (if x24 < x3 then ((slices_symMergeCmpFunc_api_Intent_at_outbox_Latest_1.f k t161 x18 x24 x3).bind fun t162 => (some t162)) else (some t161)) else (some t161))) else (if x18 < x24 then (if x24 < x3 then ((slices_symMergeCmpFunc_api_Intent_at_outbox_Latest_1.f k x0 x18 x24 x3).bind fun t163 => (some t163)) else (some x0)) else (some x0))
def slices_symMergeCmpFunc_api_Intent_at_outbox_Latest_1.f : Nat → List (S29) → Int → Int → Int → Option ((List (S29)))
 | 0, _, _, _, _ => none
 | k + 1, l0, a1, a2, a3 => if (wrap64 (a2 - a1)) = 1 then (slices_symMergeCmpFunc_api_Intent_at_outbox_Latest_1.l0 k l0 a1 a2 a3) else (if (wrap64 (a3 - a2)) = 1 then (slices_symMergeCmpFunc_api_Intent_at_outbox_Latest_1.l2 k l0 a2 a1 a2) else (if a2 > (wrap64 ((IntKind.u64.wrap (wrap64 (a1 + a3))) / 2)) then (slices_symMergeCmpFunc_api_Intent_at_outbox_Latest_1.j4 k l0 a1 a2 a3 (wrap64 ((IntKind.u64.wrap (wrap64 (a1 + a3))) / 2)) (wrap64 ((wrap64 ((IntKind.u64.wrap (wrap64 (a1 + a3))) / 2)) + a2)) (wrap64 ((wrap64 ((wrap64 ((IntKind.u64.wrap (wrap64 (a1 + a3))) / 2)) + a2)) - a3)) (wrap64 ((IntKind.u64.wrap (wrap64 (a1 + a3))) / 2))) else (slices_symMergeCmpFunc_api_Intent_at_outbox_Latest_1.j4 k l0 a1 a2 a3 (wrap64 ((IntKind.u64.wrap (wrap64 (a1 + a3))) / 2)) (wrap64 ((wrap64 ((IntKind.u64.wrap (wrap64 (a1 + a3))) / 2)) + a2)) a1 a2)))
end
theorem slices_symMergeCmpFunc_api_Intent_at_outbox_Latest_1.mono_l : ∀ k, (∀ y0 y1 y2 y3, LeO (slices_symMergeCmpFunc_api_Intent_at_outbox_Latest_1.f k y0 y1 y2 y3) (slices_symMergeCmpFunc_api_Intent_at_outbox_Latest_1.f (k + 1) y0 y1 y2 y3)) ∧ (∀ y0 y1 y2 y3, LeO (slices_symMergeCmpFunc_api_Intent_at_outbox_Latest_1.l0 k y0 y1 y2 y3) (slices_symMergeCmpFunc_api_Intent_at_outbox_Latest_1.l0 (k + 1) y0 y1 y2 y3)) ∧ (∀ y0 y1 y2, LeO (slices_symMergeCmpFunc_api_Intent_at_outbox_Latest_1.l1 k y0 y1 y2) (slices_symMergeCmpFunc_api_Intent_at_outbox_Latest_1.l1 (k + 1) y0 y1 y2)) ∧ (∀ y0 y1 y2 y3, LeO (slices_symMergeCmpFunc_api_Intent_at_outbox_Latest_1.l2 k y0 y1 y2 y3) (slices_symMergeCmpFunc_api_Intent_at_outbox_Latest_1.l2 (k + 1) y0 y1 y2 y3)) ∧ (∀ y0 y1 y2, LeO (slices_symMergeCmpFunc_api_Intent_at_outbox_Latest_1.l3 k y0 y1 y2) (slices_symMergeCmpFunc_api_Intent_at_outbox_Latest_1.l3 (k + 1) y0 y1 y2)) ∧ (∀ y0 y1 y2 y3 y4 y5 y6 y7, LeO (slices_symMergeCmpFunc_api_Intent_at_outbox_Latest_1.j4 k y0 y1 y2 y3 y4 y5 y6 y7) (slices_symMergeCmpFunc_api_Intent_at_outbox_Latest_1.j4 (k + 1) y0 y1 y2 y3 y4 y5 y6 y7)) ∧ (∀ y0 y1 y2 y3 y4 y5 y6 y7 y8, LeO (slices_symMergeCmpFunc_api_Intent_at_outbox_Latest_1.l4 k y0 y1 y2 y3 y4 y5 y6 y7 y8) (slices_symMergeCmpFunc_api_Intent_at_outbox_Latest_1.l4 (k + 1) y0 y1 y2 y3 y4 y5 y6 y7 y8)) ∧ (∀ y0 y1 y2 y3 y4 y5 y6 y7, LeO (slices_symMergeCmpFunc_api_Intent_at_outbox_Latest_1.j6 k y0 y1 y2 y3 y4 y5 y6 y7) (slices_symMergeCmpFunc_api_Intent_at_outbox_Latest_1.j6 (k + 1) y0 y1 y2 y3 y4 y5 y6 y7)) ∧ (∀ y0 y1 y2 y3 y4 y5, LeO (slices_symMergeCmpFunc_api_Intent_at_outbox_Latest_1.j7 k y0 y1 y2 y3 y4 y5) (slices_symMergeCmpFunc_api_Intent_at_outbox_Latest_1.j7 (k + 1) y0 y1 y2 y3 y4 y5)) ∧ (∀ y0 y1 y2 y3 y4 y5 y6, LeO (slices_symMergeCmpFunc_api_Intent_at_outbox_Latest_1.j8 k y0 y1 y2 y3 y4 y5 y6) (slices_symMergeCmpFunc_api_Intent_at_outbox_Latest_1.j8 (k + 1) y0 y1 y2 y3 y4 y5 y6))
 | 0 => ⟨fun _ _ _ _ r h => by simp [slices_symMergeCmpFunc_api_Intent_at_outbox_Latest_1.f] at h, fun _ _ _ _ r h => by simp [slices_symMergeCmpFunc_api_Intent_at_outbox_Latest_1.l0] at h, fun _ _ _ r h => by simp [slices_symMergeCmpFunc_api_Intent_at_outbox_Latest_1.l1] at h, fun _ _ _ _ r h => by simp [slices_symMergeCmpFunc_api_Intent_at_outbox_Latest_1.l2] at h, fun _ _ _ r h => by simp [slices_symMergeCmpFunc_api_Intent_at_outbox_Latest_1.l3] at h, fun _ _ _ _ _ _ _ _ r h => by simp [slices_symMergeCmpFunc_api_Intent_at_outbox_Latest_1.j4] at h, fun _ _ _ _ _ _ _ _ _ r h => by simp [slices_symMergeCmpFunc_api_Intent_at_outbox_Latest_1.l4] at h, fun _ _ _ _ _ _ _ _ r h => by simp [slices_symMergeCmpFunc_api_Intent_at_outbox_Latest_1.j6] at h, fun _ _ _ _ _ _ r h => by simp [slices_symMergeCmpFunc_api_Intent_at_outbox_Latest_1.j7] at h, fun _ _ _ _ _ _ _ r h => by simp [slices_symMergeCmpFunc_api_Intent_at_outbox_Latest_1.j8] at h⟩
 | k + 1 => by
  obtain ⟨ih0, ih1, ih2, ih3, ih4, ih5, ih6, ih7, ih8, ih9⟩ := slices_symMergeCmpFunc_api_Intent_at_outbox_Latest_1.mono_l k
  refine ⟨?_, ?_, ?_, ?_, ?_, ?_, ?_, ?_, ?_, ?_⟩
  ·intro y0 y1 y2 y3
   unfold slices_symMergeCmpFunc_api_Intent_at_outbox_Latest_1.f
   repeat' first
   | (with_reducible exact ih0 _ _ _ _)
   | (with_reducible exact ih1 _ _ _ _)
   | (with_reducible exact ih2 _ _ _)
   | (with_reducible exact ih3 _ _ _ _)
   | (with_reducible exact ih4 _ _ _)
   | (with_reducible exact ih5 _ _ _ _ _ _ _ _)
   | (with_reducible exact ih6 _ _ _ _ _ _ _ _ _)
   | (with_reducible exact ih7 _ _ _ _ _ _ _ _)
   | (with_reducible exact ih8 _ _ _ _ _ _)
   | (with_reducible exact ih9 _ _ _ _ _ _ _)
   | (with_reducible exact outbox_Latest_1_v158.mono _ _ _ _ _ _ _)
   | (with_reducible exact outbox_Latest_1_v40.mono _ _ _ _ _ _ _)
   | (with_reducible exact outbox_Latest_1_v92.mono _ _ _ _ _ _ _)
   | (with_reducible exact slices_rotateCmpFunc_api_Intent_at_outbox_Latest_1.mono _ _ _ _ _)
   | (with_reducible exact LeO.refl _)
   | (with_reducible exact LeO.none _)
   | (with_reducible refine LeO.ite ?_ ?_)
   | (with_reducible refine LeO.bind ?_ (fun _ => ?_))
   | exact ih0 _ _ _ _
   | exact ih1 _ _ _ _
   | exact ih2 _ _ _
   | exact ih3 _ _ _ _
   | exact ih4 _ _ _
   | exact ih5 _ _ _ _ _ _ _ _
   | exact ih6 _ _ _ _ _ _ _ _ _
   | exact ih7 _ _ _ _ _ _ _ _
   | exact ih8 _ _ _ _ _ _
   | exact ih9 _ _ _ _ _ _ _
   | exact outbox_Latest_1_v158.mono _ _ _ _ _ _ _
   | exact outbox_Latest_1_v40.mono _ _ _ _ _ _ _
   | exact outbox_Latest_1_v92.mono _ _ _ _ _ _ _
   | exact slices_rotateCmpFunc_api_Intent_at_outbox_Latest_1.mono _ _ _ _ _
   | exact LeO.none _
   | refine LeO.ite ?_ ?_
   | refine LeO.bind ?_ (fun _ => ?_)
  ·intro y0 y1 y2 y3
   unfold slices_symMergeCmpFunc_api_Intent_at_outbox_Latest_1.l0
   repeat' first
   | (with_reducible exact ih0 _ _ _ _)
   | (with_reducible exact ih1 _ _ _ _)
   | (with_reducible exact ih2 _ _ _)
   | (with_reducible exact ih3 _ _ _ _)
   | (with_reducible exact ih4 _ _ _)
   | (with_reducible exact ih5 _ _ _ _ _ _ _ _)
   | (with_reducible exact ih6 _ _ _ _ _ _ _ _ _)
   | (with_reducible exact ih7 _ _ _ _ _ _ _ _)
   | (with_reducible exact ih8 _ _ _ _ _ _)
   | (with_reducible exact ih9 _ _ _ _ _ _ _)
   | (with_reducible exact outbox_Latest_1_v158.mono _ _ _ _ _ _ _)
   | (with_reducible exact outbox_Latest_1_v40.mono _ _ _ _ _ _ _)
   | (with_reducible exact outbox_Latest_1_v92.mono _ _ _ _ _ _ _)
   | (with_reducible exact slices_rotateCmpFunc_api_Intent_at_outbox_Latest_1.mono _ _ _ _ _)
   | (with_reducible exact LeO.refl _)
   | (with_reducible exact LeO.none _)
   | (with_reducible refine LeO.ite ?_ ?_)
   | (with_reducible refine LeO.bind ?_ (fun _ => ?_))
   | exact ih0 _ _ _ _
   | exact ih1 _ _ _ _
   | exact ih2 _ _ _
   | exact ih3 _ _ _ _
   | exact ih4 _ _ _
   | exact ih5 _ _ _ _ _ _ _ _
   | exact ih6 _ _ _ _ _ _ _ _ _
   | exact ih7 _ _ _ _ _ _ _ _
   | exact ih8 _ _ _ _ _ _
   | exact ih9 _ _ _ _ _ _ _
   | exact outbox_Latest_1_v158.mono _ _ _ _ _ _ _
   | exact outbox_Latest_1_v40.mono _ _ _ _ _ _ _
   | exact outbox_Latest_1_v92.mono _ _ _ _ _ _ _
   | exact slices_rotateCmpFunc_api_Intent_at_outbox_Latest_1.mono _ _ _ _ _
   | exact LeO.none _
   | refine LeO.ite ?_ ?_
   | refine LeO.bind ?_ (fun _ => ?_)
  ·intro y0 y1 y2
   unfold slices_symMergeCmpFunc_api_Intent_at_outbox_Latest_1.l1
   repeat' first
   | (with_reducible exact ih0 _ _ _ _)
   | (with_reducible exact ih1 _ _ _ _)
   | (with_reducible exact ih2 _ _ _)
   | (with_reducible exact ih3 _ _ _ _)
   | (with_reducible exact ih4 _ _ _)
   | (with_reducible exact ih5 _ _ _ _ _ _ _ _)
   | (with_reducible exact ih6 _ _ _ _ _ _ _ _ _)
   | (with_reducible exact ih7 _ _ _ _ _ _ _ _)
   | (with_reducible exact ih8 _ _ _ _ _ _)
   | (with_reducible exact ih9 _ _ _ _ _ _ _)
   | (with_reducible exact outbox_Latest_1_v158.mono _ _ _ _ _ _ _)
   | (with_reducible exact outbox_Latest_1_v40.mono _ _ _ _ _ _ _)
   | (with_reducible exact outbox_Latest_1_v92.mono _ _ _ _ _ _ _)
   | (with_reducible exact slices_rotateCmpFunc_api_Intent_at_outbox_Latest_1.mono _ _ _ _ _)
   | (with_reducible exact LeO.refl _)
   | (with_reducible exact LeO.none _)
   | (with_reducible refine LeO.ite ?_ ?_)
   | (with_reducible refine LeO.bind ?_ (fun _ => ?_))
   | exact ih0 _ _ _ _
   | exact ih1 _ _ _ _
   | exact ih2 _ _ _
   | exact ih3 _ _ _ _
   | exact ih4 _ _ _
   | exact ih5 _ _ _ _ _ _ _ _
   | exact ih6 _ _ _ _ _ _ _ _ _
   | exact ih7 _ _ _ _ _ _ _ _
   | exact ih8 _ _ _ _ _ _
   | exact ih9 _ _ _ _ _ _ _
   | exact outbox_Latest_1_v158.mono _ _ _ _ _ _ _
   | exact outbox_Latest_1_v40.mono _ _ _ _ _ _ _
   | exact outbox_Latest_1_v92.mono _ _ _ _ _ _ _
   | exact slices_rotateCmpFunc_api_Intent_at_outbox_Latest_1.mono _ _ _ _ _
   | exact LeO.none _
   | refine LeO.ite ?_ ?_
   | refine LeO.bind ?_ (fun _ => ?_)
  ·intro y0 y1 y2 y3
   unfold slices_symMergeCmpFunc_api_Intent_at_outbox_Latest_1.l2
   repeat' first
   | (with_reducible exact ih0 _ _ _ _)
   | (with_reducible exact ih1 _ _ _ _)
   | (with_reducible exact ih2 _ _ _)
   | (with_reducible exact ih3 _ _ _ _)
   | (with_reducible exact ih4 _ _ _)
   | (with_reducible exact ih5 _ _ _ _ _ _ _ _)
   | (with_reducible exact ih6 _ _ _ _ _ _ _ _ _)
   | (with_reducible exact ih7 _ _ _ _ _ _ _ _)
   | (with_reducible exact ih8 _ _ _ _ _ _)
   | (with_reducible exact ih9 _ _ _ _ _ _ _)
   | (with_reducible exact outbox_Latest_1_v158.mono _ _ _ _ _ _ _)
   | (with_reducible exact outbox_Latest_1_v40.mono _ _ _ _ _ _ _)
   | (with_reducible exact outbox_Latest_1_v92.mono _ _ _ _ _ _ _)
   | (with_reducible exact slices_rotateCmpFunc_api_Intent_at_outbox_Latest_1.mono _ _ _ _ _)
   | (with_reducible exact LeO.refl _)
   | (with_reducible exact LeO.none _)
   | (with_reducible refine LeO.ite ?_ ?_)
   | (with_reducible refine LeO.bind ?_ (fun _ => ?_))
   | exact ih0 _ _ _ _
   | exact ih1 _ _ _ _
   | exact ih2 _ _ _
   | exact ih3 _ _ _ _
   | exact ih4 _ _ _
   | exact ih5 _ _ _ _ _ _ _ _
   | exact ih6 _ _ _ _ _ _ _ _ _
   | exact ih7 _ _ _ _ _ _ _ _
   | exact ih8 _ _ _ _ _ _
   | exact ih9 _ _ _ _ _ _ _
   | exact outbox_Latest_1_v158.mono _ _ _ _ _ _ _
   | exact outbox_Latest_1_v40.mono _ _ _ _ _ _ _
   | exact outbox_Latest_1_v92.mono _ _ _ _ _ _ _
   | exact slices_rotateCmpFunc_api_Intent_at_outbox_Latest_1.mono _ _ _ _ _
   | exact LeO.none _
   | refine LeO.ite ?_ ?_
   | refine LeO.bind ?_ (fun _ => ?_)
  ·intro y0 y1 y2
   unfold slices_symMergeCmpFunc_api_Intent_at_outbox_Latest_1.l3
   repeat' first
   | (with_reducible exact ih0 _ _ _ _)
   | (with_reducible exact ih1 _ _ _ _)
   | (with_reducible exact ih2 _ _ _)
   | (with_reducible exact ih3 _ _ _ _)
   | (with_reducible exact ih4 _ _ _)
   | (with_reducible exact ih5 _ _ _ _ _ _ _ _)
   | (with_reducible exact ih6 _ _ _ _ _ _ _ _ _)
   | (with_reducible exact ih7 _ _ _ _ _ _ _ _)
   | (with_reducible exact ih8 _ _ _ _ _ _)
   | (with_reducible exact ih9 _ _ _ _ _ _ _)
   | (with_reducible exact outbox_Latest_1_v158.mono _ _ _ _ _ _ _)
   | (with_reducible exact outbox_Latest_1_v40.mono _ _ _ _ _ _ _)
   | (with_reducible exact outbox_Latest_1_v92.mono _ _ _ _ _ _ _)
   | (with_reducible exact slices_rotateCmpFunc_api_Intent_at_outbox_Latest_1.mono _ _ _ _ _)
   | (with_reducible exact LeO.refl _)
   | (with_reducible exact LeO.none _)
   | (with_reducible refine LeO.ite ?_ ?_)
   | (with_reducible refine LeO.bind ?_ (fun _ => ?_))
   | exact ih0 _ _ _ _
   | exact ih1 _ _ _ _
   | exact ih2 _ _ _
   | exact ih3 _ _ _ _
   | exact ih4 _ _ _
   | exact ih5 _ _ _ _ _ _ _ _
   | exact ih6 _ _ _ _ _ _ _ _ _
   | exact ih7 _ _ _ _ _ _ _ _
   | exact ih8 _ _ _ _ _ _
   | exact ih9 _ _ _ _ _ _ _
   | exact outbox_Latest_1_v158.mono _ _ _ _ _ _ _
   | exact outbox_Latest_1_v40.mono _ _ _ _ _ _ _
   | exact outbox_Latest_1_v92.mono _ _ _ _ _ _ _
   | exact slices_rotateCmpFunc_api_Intent_at_outbox_Latest_1.mono _ _ _ _ _
   | exact LeO.none _
   | refine LeO.ite ?_ ?_
   | refine LeO.bind ?_ (fun _ => ?_)
  ·intro y0 y1 y2 y3 y4 y5 y6 y7
   unfold slices_symMergeCmpFunc_api_Intent_at_outbox_Latest_1.j4
   repeat' first
   | (with_reducible exact ih0 _ _ _ _)
   | (with_reducible exact ih1 _ _ _ _)
   | (with_reducible exact ih2 _ _ _)
   | (with_reducible exact ih3 _ _ _ _)
   | (with_reducible exact ih4 _ _ _)
   | (with_reducible exact ih5 _ _ _ _ _ _ _ _)
   | (with_reducible exact ih6 _ _ _ _ _ _ _ _ _)
   | (with_reducible exact ih7 _ _ _ _ _ _ _ _)
   | (with_reducible exact ih8 _ _ _ _ _ _)
   | (with_reducible exact ih9 _ _ _ _ _ _ _)
   | (with_reducible exact outbox_Latest_1_v158.mono _ _ _ _ _ _ _)
   | (with_reducible exact outbox_Latest_1_v40.mono _ _ _ _ _ _ _)
   | (with_reducible exact outbox_Latest_1_v92.mono _ _ _ _ _ _ _)
   | (with_reducible exact slices_rotateCmpFunc_api_Intent_at_outbox_Latest_1.mono _ _ _ _ _)
   | (with_reducible exact LeO.refl _)
   | (with_reducible exact LeO.none _)
   | (with_reducible refine LeO.ite ?_ ?_)
   | (with_reducible refine LeO.bind ?_ (fun _ => ?_))
   | exact ih0 _ _ _ _
   | exact ih1 _ _ _ _
   | exact ih2 _ _ _
   | exact ih3 _ _ _ _
   | exact ih4 _ _ _
   | exact ih5 _ _ _ _ _ _ _ _
   | exact ih6 _ _ _ _ _ _ _ _ _
   | exact ih7 _ _ _ _ _ _ _ _
   | exact ih8 _ _ _ _ _ _
   | exact ih9 _ _ _ _ _ _ _
   | exact outbox_Latest_1_v158.mono _ _ _ _ _ _ _
   | exact outbox_Latest_1_v40.mono _ _ _ _ _ _ _
   | exact outbox_Latest_1_v92.mono _ _ _ _ _ _ _
   | exact slices_rotateCmpFunc_api_Intent_at_outbox_Latest_1.mono _ _ _ _ _
   | exact LeO.none _
   | refine LeO.ite ?_ ?_
   | refine LeO.bind ?_ (fun _ => ?_)
  ·intro y0 y1 y2 y3 y4 y5 y6 y7 y8
   unfold slices_symMergeCmpFunc_api_Intent_at_outbox_Latest_1.l4
   repeat' first
   | (with_reducible exact ih0 _ _ _ _)
   | (with_reducible exact ih1 _ _ _ _)
   | (with_reducible exact ih2 _ _ _)
   | (with_reducible exact ih3 _ _ _ _)
   | (with_reducible exact ih4 _ _ _)
   | (with_reducible exact ih5 _ _ _ _ _ _ _ _)
   | (with_reducible exact ih6 _ _ _ _ _ _ _ _ _)
   | (with_reducible exact ih7 _ _ _ _ _ _ _ _)
   | (with_reducible exact ih8 _ _ _ _ _ _)
   | (with_reducible exact ih9 _ _ _ _ _ _ _)
   | (with_reducible exact outbox_Latest_1_v158.mono _ _ _ _ _ _ _)
   | (with_reducible exact outbox_Latest_1_v40.mono _ _ _ _ _ _ _)
   | (with_reducible exact outbox_Latest_1_v92.mono _ _ _ _ _ _ _)
   | (with_reducible exact slices_rotateCmpFunc_api_Intent_at_outbox_Latest_1.mono _ _ _ _ _)
   | (with_reducible exact LeO.refl _)
   | (with_reducible exact LeO.none _)
   | (with_reducible refine LeO.ite ?_ ?_)
   | (with_reducible refine LeO.bind ?_ (fun _ => ?_))
   | exact ih0 _ _ _ _
   | exact ih1 _ _ _ _
   | exact ih2 _ _ _
   | exact ih3 _ _ _ _
   | exact ih4 _ _ _
   | exact ih5 _ _ _ _ _ _ _ _
   | exact ih6 _ _ _ _ _ _ _ _ _
   | exact ih7 _ _ _ _ _ _ _ _
   | exact ih8 _ _ _ _ _ _
   | exact ih9 _ _ _ _ _ _ _
   | exact outbox_Latest_1_v158.mono _ _ _ _ _ _ _
   | exact outbox_Latest_1_v40.mono _ _ _ _ _ _ _
   | exact outbox_Latest_1_v92.mono _ _ _ _ _ _ _
   | exact slices_rotateCmpFunc_api_Intent_at_outbox_Latest_1.mono _ _ _ _ _
   | exact LeO.none _
   | refine LeO.ite ?_ ?_
   | refine LeO.bind ?_ (fun _ => ?_)
  ·intro y0 y1 y2 y3 y4 y5 y6 y7
   unfold slices_symMergeCmpFunc_api_Intent_at_outbox_Latest_1.j6
   repeat' first
   | (with_reducible exact ih0 _ _ _ _)
   | (with_reducible exact ih1 _ _ _ _)
   | (with_reducible exact ih2 _ _ _)
   | (with_reducible exact ih3 _ _ _ _)
   | (with_reducible exact ih4 _ _ _)
   | (with_reducible exact ih5 _ _ _ _ _ _ _ _)
   | (with_reducible exact ih6 _ _ _ _ _ _ _ _ _)
   | (with_reducible exact ih7 _ _ _ _ _ _ _ _)
   | (with_reducible exact ih8 _ _ _ _ _ _)
   | (with_reducible exact ih9 _ _ _ _ _ _ _)
   | (with_reducible exact outbox_Latest_1_v158.mono _ _ _ _ _ _ _)
   | (with_reducible exact outbox_Latest_1_v40.mono _ _ _ _ _ _ _)
   | (with_reducible exact outbox_Latest_1_v92.mono _ _ _ _ _ _ _)
   | (with_reducible exact slices_rotateCmpFunc_api_Intent_at_outbox_Latest_1.mono _ _ _ _ _)
   | (with_reducible exact LeO.refl _)
   | (with_reducible exact LeO.none _)
   | (with_reducible refine LeO.ite ?_ ?_)
   | (with_reducible refine LeO.bind ?_ (fun _ => ?_))
   | exact ih0 _ _ _ _
   | exact ih1 _ _ _ _
   | exact ih2 _ _ _
   | exact ih3 _ _ _ _
   | exact ih4 _ _ _
   | exact ih5 _ _ _ _ _ _ _ _
   | exact ih6 _ _ _ _ _ _ _ _ _
   | exact ih7 _ _ _ _ _ _ _ _
   | exact ih8 _ _ _ _ _ _
   | exact ih9 _ _ _ _ _ _ _
   | exact outbox_Latest_1_v158.mono _ _ _ _ _ _ _
   | exact outbox_Latest_1_v40.mono _ _ _ _ _ _ _
   | exact outbox_Latest_1_v92.mono _ _ _ _ _ _ _
   | exact slices_rotateCmpFunc_api_Intent_at_outbox_Latest_1.mono _ _ _ _ _
   | exact LeO.none _
   | refine LeO.ite ?_ ?_
   | refine LeO.bind ?_ (fun _ => ?_)
  ·intro y0 y1 y2 y3 y4 y5
   unfold slices_symMergeCmpFunc_api_Intent_at_outbox_Latest_1.j7
   repeat' first
   | (with_reducible exact ih0 _ _ _ _)
   | (with_reducible exact ih1 _ _ _ _)
   | (with_reducible exact ih2 _ _ _)
   | (with_reducible exact ih3 _ _ _ _)
   | (with_reducible exact ih4 _ _ _)
   | (with_reducible exact ih5 _ _ _ _ _ _ _ _)
   | (with_reducible exact ih6 _ _ _ _ _ _ _ _ _)
   | (with_reducible exact ih7 _ _ _ _ _ _ _ _)
   | (with_reducible exact ih8 _ _ _ _ _ _)
   | (with_reducible exact ih9 _ _ _ _ _ _ _)
   | (with_reducible exact outbox_Latest_1_v158.mono _ _ _ _ _ _ _)
   | (with_reducible exact outbox_Latest_1_v40.mono _ _ _ _ _ _ _)
   | (with_reducible exact outbox_Latest_1_v92.mono _ _ _ _ _ _ _)
   | (with_reducible exact slices_rotateCmpFunc_api_Intent_at_outbox_Latest_1.mono _ _ _ _ _)
   | (with_reducible exact LeO.refl _)
   | (with_reducible exact LeO.none _)
   | (with_reducible refine LeO.ite ?_ ?_)
   | (with_reducible refine LeO.bind ?_ (fun _ => ?_))
   | exact ih0 _ _ _ _
   | exact ih1 _ _ _ _
   | exact ih2 _ _ _
   | exact ih3 _ _ _ _
   | exact ih4 _ _ _
   | exact ih5 _ _ _ _ _ _ _ _
   | exact ih6 _ _ _ _ _ _ _ _ _
   | exact ih7 _ _ _ _ _ _ _ _
   | exact ih8 _ _ _ _ _ _
   | exact ih9 _ _ _ _ _ _ _
   | exact outbox_Latest_1_v158.mono _ _ _ _ _ _ _
   | exact outbox_Latest_1_v40.mono _ _ _ _ _ _ _
   | exact outbox_Latest_1_v92.mono _ _ _ _ _ _ _
   | exact slices_rotateCmpFunc_api_Intent_at_outbox_Latest_1.mono _ _ _ _ _
   | exact LeO.none _
   | refine LeO.ite ?_ ?_
   | refine LeO.bind ?_ (fun _ => ?_)
  ·intro y0 y1 y2 y3 y4 y5 y6
   unfold slices_symMergeCmpFunc_api_Intent_at_outbox_Latest_1.j8
   repeat' first
   | (with_reducible exact ih0 _ _ _ _)
   | (with_reducible exact ih1 _ _ _ _)
   | (with_reducible exact ih2 _ _ _)
   | (with_reducible exact ih3 _ _ _ _)
   | (with_reducible exact ih4 _ _ _)
   | (with_reducible exact ih5 _ _ _ _ _ _ _ _)
   | (with_reducible exact ih6 _ _ _ _ _ _ _ _ _)
   | (with_reducible exact ih7 _ _ _ _ _ _ _ _)
   | (with_reducible exact ih8 _ _ _ _ _ _)
   | (with_reducible exact ih9 _ _ _ _ _ _ _)
   | (with_reducible exact outbox_Latest_1_v158.mono _ _ _ _ _ _ _)
   | (with_reducible exact outbox_Latest_1_v40.mono _ _ _ _ _ _ _)
   | (with_reducible exact outbox_Latest_1_v92.mono _ _ _ _ _ _ _)
   | (with_reducible exact slices_rotateCmpFunc_api_Intent_at_outbox_Latest_1.mono _ _ _ _ _)
   | (with_reducible exact LeO.refl _)
   | (with_reducible exact LeO.none _)
   | (with_reducible refine LeO.ite ?_ ?_)
   | (with_reducible refine LeO.bind ?_ (fun _ => ?_))
   | exact ih0 _ _ _ _
   | exact ih1 _ _ _ _
   | exact ih2 _ _ _
   | exact ih3 _ _ _ _
   | exact ih4 _ _ _
   | exact ih5 _ _ _ _ _ _ _ _
   | exact ih6 _ _ _ _ _ _ _ _ _
   | exact ih7 _ _ _ _ _ _ _ _
   | exact ih8 _ _ _ _ _ _
   | exact ih9 _ _ _ _ _ _ _
   | exact outbox_Latest_1_v158.mono _ _ _ _ _ _ _
   | exact outbox_Latest_1_v40.mono _ _ _ _ _ _ _
   | exact outbox_Latest_1_v92.mono _ _ _ _ _ _ _
   | exact slices_rotateCmpFunc_api_Intent_at_outbox_Latest_1.mono _ _ _ _ _
   | exact LeO.none _
   | refine LeO.ite ?_ ?_
   | refine LeO.bind ?_ (fun _ => ?_)
theorem slices_symMergeCmpFunc_api_Intent_at_outbox_Latest_1.mono : ∀ a0 a1 a2 a3 k, LeO (slices_symMergeCmpFunc_api_Intent_at_outbox_Latest_1.f k a0 a1 a2 a3) (slices_symMergeCmpFunc_api_Intent_at_outbox_Latest_1.f (k + 1) a0 a1 a2 a3) := by
 intro a0 a1 a2 a3 k
 obtain ⟨ih0, ih1, ih2, ih3, ih4, ih5, ih6, ih7, ih8, ih9⟩ := slices_symMergeCmpFunc_api_Intent_at_outbox_Latest_1.mono_l k
 exact ih0 a0 a1 a2 a3
def slices_symMergeCmpFunc_api_Intent_at_outbox_Latest_1.T5 : Bool × List (List Nat × List Nat) := (true, [([], []), ([], []), ([], []), ([1, 2], [1, 2]), ([3], [3]), ([], []), ([], []), ([5, 6], [5, 6]), ([7], [7]), ([0, 4, 8], [0, 4, 8]), ([9], [9])])
def slices_symMergeCmpFunc_api_Intent_at_outbox_Latest_1.B5 : List Nat := [0, 0, 0, 6, 14, 0, 0, 96, 224, 511, 1023]
theorem slices_symMergeCmpFunc_api_Intent_at_outbox_Latest_1.tab5 : rtab .any (opsOf Try.f72 5) = slices_symMergeCmpFunc_api_Intent_at_outbox_Latest_1.T5 := by kernel_rfl
theorem slices_symMergeCmpFunc_api_Intent_at_outbox_Latest_1.bits5 : waitsOk slices_symMergeCmpFunc_api_Intent_at_outbox_Latest_1.T5.2 slices_symMergeCmpFunc_api_Intent_at_outbox_Latest_1.B5 = true := by kernel_rfl
def slices_symMergeCmpFunc_api_Intent_at_outbox_Latest_1.T11 : Bool × List (List Nat × List Nat) := (true, [([], []), ([], []), ([], []), ([], []), ([3], [3]), ([], []), ([], []), ([6], [6]), ([5, 7], [5, 7]), ([8], [8]), ([], []), ([], []), ([10, 11], [10, 11]), ([12], [12]), ([0, 1, 0, 1, 5, 6, 7, 8, 9, 13], [0, 1]), ([14, 9, 0, 1, 5, 6, 7, 8, 9, 13], [9, 14]), ([2, 4, 0, 1, 2, 3, 4, 5, 6, 7, 8, 9, 10, 11, 12, 13, 14, 15], [2, 4]), ([16, 13, 15, 0, 1, 2, 3, 4, 5, 6, 7, 8, 9, 10, 11, 12, 13, 14, 15], [13, 16])])
def slices_symMergeCmpFunc_api_Intent_at_outbox_Latest_1.B11 : List Nat := [0, 0, 0, 0, 8, 0, 0, 64, 224, 480, 0, 0, 3072, 7168, 16355, 32739, 65535, 131071]
theorem slices_symMergeCmpFunc_api_Intent_at_outbox_Latest_1.tab11 : rtab .any (opsOf Try.f72 11) = slices_symMergeCmpFunc_api_Intent_at_outbox_Latest_1.T11 := by kernel_rfl
theorem slices_symMergeCmpFunc_api_Intent_at_outbox_Latest_1.bits11 : waitsOk slices_symMergeCmpFunc_api_Intent_at_outbox_Latest_1.T11.2 slices_symMergeCmpFunc_api_Intent_at_outbox_Latest_1.B11 = true := by kernel_rfl
def slices_symMergeCmpFunc_api_Intent_at_outbox_Latest_1.T17 : Bool × List (List Nat × List Nat) := (true, [([], []), ([], []), ([], []), ([1, 2], [1, 2]), ([3], [3]), ([], []), ([], []), ([5, 6], [5, 6]), ([7], [7]), ([0, 4, 8], [0, 4, 8]), ([9], [9]), ([10], [10])])
def slices_symMergeCmpFunc_api_Intent_at_outbox_Latest_1.B17 : List Nat := [0, 0, 0, 6, 14, 0, 0, 96, 224, 511, 1023, 2047]
theorem slices_symMergeCmpFunc_api_Intent_at_outbox_Latest_1.tab17 : rtab .any (opsOf Try.f72 17) = slices_symMergeCmpFunc_api_Intent_at_outbox_Latest_1.T17 := by kernel_rfl
theorem slices_symMergeCmpFunc_api_Intent_at_outbox_Latest_1.bits17 : waitsOk slices_symMergeCmpFunc_api_Intent_at_outbox_Latest_1.T17.2 slices_symMergeCmpFunc_api_Intent_at_outbox_Latest_1.B17 = true := by kernel_rfl
def slices_symMergeCmpFunc_api_Intent_at_outbox_Latest_1.T23 : Bool × List (List Nat × List Nat) := (true, [([], []), ([], []), ([], []), ([], []), ([3], [3]), ([], []), ([], []), ([6], [6]), ([5, 7], [5, 7]), ([8], [8]), ([], []), ([], []), ([10, 11], [10, 11]), ([12], [12]), ([0, 1, 0, 1, 5, 6, 7, 8, 9, 13], [0, 1]), ([14, 9, 0, 1, 5, 6, 7, 8, 9, 13], [9, 14]), ([2, 4, 0, 1, 2, 3, 4, 5, 6, 7, 8, 9, 10, 11, 12, 13, 14, 15], [2, 4]), ([16, 13, 15, 0, 1, 2, 3, 4, 5, 6, 7, 8, 9, 10, 11, 12, 13, 14, 15], [13, 16])])
def slices_symMergeCmpFunc_api_Intent_at_outbox_Latest_1.B23 : List Nat := [0, 0, 0, 0, 8, 0, 0, 64, 224, 480, 0, 0, 3072, 7168, 16355, 32739, 65535, 131071]
theorem slices_symMergeCmpFunc_api_Intent_at_outbox_Latest_1.tab23 : rtab .any (opsOf Try.f72 23) = slices_symMergeCmpFunc_api_Intent_at_outbox_Latest_1.T23 := by kernel_rfl
theorem slices_symMergeCmpFunc_api_Intent_at_outbox_Latest_1.bits23 : waitsOk slices_symMergeCmpFunc_api_Intent_at_outbox_Latest_1.T23.2 slices_symMergeCmpFunc_api_Intent_at_outbox_Latest_1.B23 = true := by kernel_rfl
def slices_symMergeCmpFunc_api_Intent_at_outbox_Latest_1.T35 : Bool × List (List Nat × List Nat) := (true, [([], []), ([], []), ([], []), ([], []), ([2, 3], [2, 3]), ([1, 4], [1, 4]), ([5], [5]), ([], []), ([], []), ([7, 8], [7, 8]), ([9], [9]), ([0, 6, 10], [0, 6, 10]), ([11], [11]), ([12], [12])])
def slices_symMergeCmpFunc_api_Intent_at_outbox_Latest_1.B35 : List Nat := [0, 0, 0, 0, 12, 30, 62, 0, 0, 384, 896, 2047, 4095, 8191]
theorem slices_symMergeCmpFunc_api_Intent_at_outbox_Latest_1.tab35 : rtab .any (opsOf Try.f72 35) = slices_symMergeCmpFunc_api_Intent_at_outbox_Latest_1.T35 := by kernel_rfl
theorem slices_symMergeCmpFunc_api_Intent_at_outbox_Latest_1.bits35 : waitsOk slices_symMergeCmpFunc_api_Intent_at_outbox_Latest_1.T35.2 slices_symMergeCmpFunc_api_Intent_at_outbox_Latest_1.B35 = true := by kernel_rfl

end Go.Proofs.Ytdaikljbljcagaa.PAll
