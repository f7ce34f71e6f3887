-- Written by a program of this session for this claim (mp.py, over the kit's print); Lean checks it.
import Derived.Test.YtmgjccpolkhhhaaPAllx0
import Derived.Test.YtmgjccpolkhhhaaPAllx3
import Derived.Test.YtmgjccpolkhhhaaPAllx5
import Derived.Test.YtmgjccpolkhhhaaPAllx10
import Derived.Test.YtmgjccpolkhhhaaPAllx13
import Derived.Test.YtmgjccpolkhhhaaPAllx17
namespace Go.Proofs.Ytmgjccpolkhhhaa.PAll
open Go.RowKit Go.Proofs.YtmgjccpolkhhhaaW.PrintWords Go.Proofs.YtmgjccpolkhhhaaW.PrintLast Go.Proofs.YtmgjccpolkhhhaaW.PrintMore Go.Proofs.Ytmgjccpolkhhhaa.Fv Go.Proofs.Ytmgjccpolkhhhaa.Hl
attribute [local go_sem] max2_int min2_int max_two min_two max_three min_three max_four min_four str_gtr str_leq str_geq cell_set2   -- for this text's walks alone
set_option linter.unusedVariables false
set_option linter.unusedSimpArgs false

/-! ### shelfmarklaw12_AtlasTiles: function 7 -/
mutual
def shelfmarklaw12_AtlasTiles.j0 : Nat → Int → List (S40) → List ByteArray → Bool → Option (Bool)
 | 0, _, _, _, _ => none
 | k + 1, x0, x1, x2, x33 => if x33 = true then (some true) else ((atlas_Start.f x0).bind fun bt400 => (if bt400.2.2 = 0 then (shelfmarklaw12_AtlasTiles.l0 k x1 x2 0 bt400.1 bt400.2.1) else (if x0 < 1 then (some true) else (some (decide (x0 > 4))))))
def shelfmarklaw12_AtlasTiles.l0 : Nat → List (S40) → List ByteArray → Int → Int → List (S46) → Option (Bool)
 | 0, _, _, _, _, _ => none
 | k + 1, x1, x2, x9, x406000, x406001 => if x9 < (x1.length : Int) then (if 0 ≤ x9 then (if (((rd_T40 x1 x9).f1).size : Int) > 300 then (some true) else ((shelfmarklaw12_act.f k x406000 x406001 ((rd_T40 x1 x9).f0) ((rd_T40 x1 x9).f1) ((rd_T40 x1 x9).f2)).bind fun bt408 => (if bt408.2.2 = 0 then (if ((rd_T40 x1 x9).f0) ≥ 1 then (if ((rd_T40 x1 x9).f0) ≤ 3 then (shelfmarklaw12_AtlasTiles.j2 k x1 x2 x9 (bt408.1 != (wrap64 (x406000 + 1))) x406000 x406001 bt408.1 bt408.2.1) else (shelfmarklaw12_AtlasTiles.j2 k x1 x2 x9 false x406000 x406001 bt408.1 bt408.2.1)) else (shelfmarklaw12_AtlasTiles.j2 k x1 x2 x9 false x406000 x406001 bt408.1 bt408.2.1)) else (if (bt408.2.1.length : Int) = 0 then (if bt408.1 = 0 then (shelfmarklaw12_AtlasTiles.l0 k x1 x2 (wrap64 (x9 + 1)) x406000 x406001) else (some false)) else (some false))))) else (none)) else (some true)
def shelfmarklaw12_AtlasTiles.j2 : Nat → List (S40) → List ByteArray → Int → Bool → Int → List (S46) → Int → List (S46) → Option (Bool)
 | 0, _, _, _, _, _, _, _, _ => none
 | k + 1, x1, x2, x9, x101, x406000, x406001, x414000, x414001 => if x101 = true then (some false) else (if 0 ≤ x9 then (if x9 < (x1.length : Int) then ((atlas_Find.f k x406000 x406001 ((rd_T40 x1 x9).f1)).bind fun bt417 => (shelfmarklaw12_AtlasTiles.l1 k x1 x2 x9 bt417.1 0 x406000 x406001 x414000 x414001)) else (none)) else (none))
def shelfmarklaw12_AtlasTiles.l1 : Nat → List (S40) → List ByteArray → Int → Int → Int → Int → List (S46) → Int → List (S46) → Option (Bool)
 | 0, _, _, _, _, _, _, _, _, _ => none
 | k + 1, x1, x2, x9, x12, x14, x406000, x406001, x414000, x414001 => if x14 < (x2.length : Int) then (if 0 ≤ x14 then (if ((rdOf ByteArray.empty x2 x14).size : Int) > 300 then (some true) else ((atlas_Find.f k x406000 x406001 (rdOf ByteArray.empty x2 x14)).bind fun bt421 => ((atlas_Find.f k x414000 x414001 (rdOf ByteArray.empty x2 x14)).bind fun bt424 => (if bt421.2 = true then (if bt424.2 = true then (if bt421.1 < 0 then (shelfmarklaw12_AtlasTiles.j4 k x1 x2 x9 x12 x14 bt421.1 bt424.1 true x406000 x406001 x414000 x414001) else (if bt424.1 < 0 then (shelfmarklaw12_AtlasTiles.j4 k x1 x2 x9 x12 x14 bt421.1 bt424.1 true x406000 x406001 x414000 x414001) else (if bt421.1 ≥ (x406001.length : Int) then (shelfmarklaw12_AtlasTiles.j4 k x1 x2 x9 x12 x14 bt421.1 bt424.1 true x406000 x406001 x414000 x414001) else (shelfmarklaw12_AtlasTiles.j4 k x1 x2 x9 x12 x14 bt421.1 bt424.1 (decide (bt424.1 ≥ (x414001.length : Int))) x406000 x406001 x414000 x414001)))) else (shelfmarklaw12_AtlasTiles.j4 k x1 x2 x9 x12 x14 bt421.1 bt424.1 true x406000 x406001 x414000 x414001)) else (shelfmarklaw12_AtlasTiles.j4 k x1 x2 x9 x12 x14 bt421.1 bt424.1 true x406000 x406001 x414000 x414001))))) else (none)) else (shelfmarklaw12_AtlasTiles.l0 k x1 x2 (wrap64 (x9 + 1)) x414000 x414001)
def shelfmarklaw12_AtlasTiles.j4 : Nat → List (S40) → List ByteArray → Int → Int → Int → Int → Int → Bool → Int → List (S46) → Int → List (S46) → Option (Bool)
 | 0, _, _, _, _, _, _, _, _, _, _, _, _ => none
 | k + 1, x1, x2, x9, x12, x14, x15, x17, x169, x406000, x406001, x414000, x414001 => if x169 = true then (some false) else (if 0 ≤ x15 then (if x15 < (x406001.length : Int) then (if 0 ≤ x9 then (if x9 < (x1.length : Int) then (if ((rd_T40 x1 x9).f0) = 3 then (shelfmarklaw12_AtlasTiles.j5 k x1 x2 x9 x12 x14 x17 ((rd_T46 x406001 x15).f1) (x15 == x12) x406000 x406001 x414000 x414001) else (shelfmarklaw12_AtlasTiles.j5 k x1 x2 x9 x12 x14 x17 ((rd_T46 x406001 x15).f1) false x406000 x406001 x414000 x414001)) else (none)) else (none)) else (none)) else (none))
def shelfmarklaw12_AtlasTiles.j5 : Nat → List (S40) → List ByteArray → Int → Int → Int → Int → Int → Bool → Int → List (S46) → Int → List (S46) → Option (Bool)
 | 0, _, _, _, _, _, _, _, _, _, _, _, _ => none
 | k + 1, x1, x2, x9, x12, x14, x17, x19, x186, x406000, x406001, x414000, x414001 => if x186 = true then (if 0 ≤ x9 then (if x9 < (x1.length : Int) then (shelfmarklaw12_AtlasTiles.j6 k x1 x2 x9 x12 x14 x17 ((rd_T40 x1 x9).f2) x406000 x406001 x414000 x414001) else (none)) else (none)) else (shelfmarklaw12_AtlasTiles.j6 k x1 x2 x9 x12 x14 x17 x19 x406000 x406001 x414000 x414001)
def shelfmarklaw12_AtlasTiles.j6 : Nat → List (S40) → List ByteArray → Int → Int → Int → Int → Int → Int → List (S46) → Int → List (S46) → Option (Bool)
 | 0, _, _, _, _, _, _, _, _, _, _, _ => none
 | k + 1, x1, x2, x9, x12, x14, x17, x19, x406000, x406001, x414000, x414001 => if 0 ≤ x17 then (if x17 < (x414001.length : Int) then (if ((rd_T46 x414001 x17).f1) = x19 then (shelfmarklaw12_AtlasTiles.l2 k x1 x2 x9 x12 x14 0 0 x406000 x406001 x414000 x414001) else (some false)) else (none)) else (none)
def shelfmarklaw12_AtlasTiles.l2 : Nat → List (S40) → List ByteArray → Int → Int → Int → Int → Int → Int → List (S46) → Int → List (S46) → Option (Bool)
 | 0, _, _, _, _, _, _, _, _, _, _, _ => none
 | k + 1, x1, x2, x9, x12, x14, x20, x21, x406000, x406001, x414000, x414001 => if x21 < (x414001.length : Int) then ((atlas_Of.f k x414000 x414001 x21).bind fun bt430 => (if bt430.2.2 = true then (if 0 ≤ x14 then (if x14 < (x2.length : Int) then (if ((Op.bytesLess ((rdOf ByteArray.empty x2 x14).toList) bt430.1.toList) = true) then (shelfmarklaw12_AtlasTiles.l2 k x1 x2 x9 x12 x14 x20 (wrap64 (x21 + 1)) x406000 x406001 x414000 x414001) else (if bt430.2.1.toList = ([] : List UInt8) then (shelfmarklaw12_AtlasTiles.l2 k x1 x2 x9 x12 x14 (wrap64 (x20 + 1)) (wrap64 (x21 + 1)) x406000 x406001 x414000 x414001) else (if (Op.bytesLess ((rdOf ByteArray.empty x2 x14).toList) bt430.2.1.toList) = true then (shelfmarklaw12_AtlasTiles.l2 k x1 x2 x9 x12 x14 (wrap64 (x20 + 1)) (wrap64 (x21 + 1)) x406000 x406001 x414000 x414001) else (shelfmarklaw12_AtlasTiles.l2 k x1 x2 x9 x12 x14 x20 (wrap64 (x21 + 1)) x406000 x406001 x414000 x414001)))) else (none)) else (none)) else (shelfmarklaw12_AtlasTiles.l2 k x1 x2 x9 x12 x14 x20 (wrap64 (x21 + 1)) x406000 x406001 x414000 x414001))) else (if x20 = 1 then (shelfmarklaw12_AtlasTiles.l1 k x1 x2 x9 x12 (wrap64 (x14 + 1)) x406000 x406001 x414000 x414001) else (some false))
end
def shelfmarklaw12_AtlasTiles.f (k : Nat) (a0 : Int) (l1 : List (S40)) (l2 : List ByteArray) : Option (Bool) := (shelfmarklaw12_awake.f k).bind fun t399 => (if t399 = true then (if (l1.length : Int) > 60 then (shelfmarklaw12_AtlasTiles.j0 k a0 l1 l2 true) else (shelfmarklaw12_AtlasTiles.j0 k a0 l1 l2 (decide ((l2.length : Int) > 20)))) else (some false))
theorem shelfmarklaw12_AtlasTiles.mono_l : ∀ k, (∀ y0 y1 y2 y3, LeO (shelfmarklaw12_AtlasTiles.j0 k y0 y1 y2 y3) (shelfmarklaw12_AtlasTiles.j0 (k + 1) y0 y1 y2 y3)) ∧ (∀ y0 y1 y2 y3 y4, LeO (shelfmarklaw12_AtlasTiles.l0 k y0 y1 y2 y3 y4) (shelfmarklaw12_AtlasTiles.l0 (k + 1) y0 y1 y2 y3 y4)) ∧ (∀ y0 y1 y2 y3 y4 y5 y6 y7, LeO (shelfmarklaw12_AtlasTiles.j2 k y0 y1 y2 y3 y4 y5 y6 y7) (shelfmarklaw12_AtlasTiles.j2 (k + 1) y0 y1 y2 y3 y4 y5 y6 y7)) ∧ (∀ y0 y1 y2 y3 y4 y5 y6 y7 y8, LeO (shelfmarklaw12_AtlasTiles.l1 k y0 y1 y2 y3 y4 y5 y6 y7 y8) (shelfmarklaw12_AtlasTiles.l1 (k + 1) y0 y1 y2 y3 y4 y5 y6 y7 y8)) ∧ (∀ y0 y1 y2 y3 y4 y5 y6 y7 y8 y9 y10 y11, LeO (shelfmarklaw12_AtlasTiles.j4 k y0 y1 y2 y3 y4 y5 y6 y7 y8 y9 y10 y11) (shelfmarklaw12_AtlasTiles.j4 (k + 1) y0 y1 y2 y3 y4 y5 y6 y7 y8 y9 y10 y11)) ∧ (∀ y0 y1 y2 y3 y4 y5 y6 y7 y8 y9 y10 y11, LeO (shelfmarklaw12_AtlasTiles.j5 k y0 y1 y2 y3 y4 y5 y6 y7 y8 y9 y10 y11) (shelfmarklaw12_AtlasTiles.j5 (k + 1) y0 y1 y2 y3 y4 y5 y6 y7 y8 y9 y10 y11)) ∧ (∀ y0 y1 y2 y3 y4 y5 y6 y7 y8 y9 y10, LeO (shelfmarklaw12_AtlasTiles.j6 k y0 y1 y2 y3 y4 y5 y6 y7 y8 y9 y10) (shelfmarklaw12_AtlasTiles.j6 (k + 1) y0 y1 y2 y3 y4 y5 y6 y7 y8 y9 y10)) ∧ (∀ y0 y1 y2 y3 y4 y5 y6 y7 y8 y9 y10, LeO (shelfmarklaw12_AtlasTiles.l2 k y0 y1 y2 y3 y4 y5 y6 y7 y8 y9 y10) (shelfmarklaw12_AtlasTiles.l2 (k + 1) y0 y1 y2 y3 y4 y5 y6 y7 y8 y9 y10))
 | 0 => ⟨fun _ _ _ _ r h => by simp [shelfmarklaw12_AtlasTiles.j0] at h, fun _ _ _ _ _ r h => by simp [shelfmarklaw12_AtlasTiles.l0] at h, fun _ _ _ _ _ _ _ _ r h => by simp [shelfmarklaw12_AtlasTiles.j2] at h, fun _ _ _ _ _ _ _ _ _ r h => by simp [shelfmarklaw12_AtlasTiles.l1] at h, fun _ _ _ _ _ _ _ _ _ _ _ _ r h => by simp [shelfmarklaw12_AtlasTiles.j4] at h, fun _ _ _ _ _ _ _ _ _ _ _ _ r h => by simp [shelfmarklaw12_AtlasTiles.j5] at h, fun _ _ _ _ _ _ _ _ _ _ _ r h => by simp [shelfmarklaw12_AtlasTiles.j6] at h, fun _ _ _ _ _ _ _ _ _ _ _ r h => by simp [shelfmarklaw12_AtlasTiles.l2] at h⟩
 | k + 1 => by
  obtain ⟨ih0, ih1, ih2, ih3, ih4, ih5, ih6, ih7⟩ := shelfmarklaw12_AtlasTiles.mono_l k
  refine ⟨?_, ?_, ?_, ?_, ?_, ?_, ?_, ?_⟩
  ·intro y0 y1 y2 y3
   unfold shelfmarklaw12_AtlasTiles.j0
   repeat' first
   | (with_reducible exact ih0 _ _ _ _)
   | (with_reducible exact ih1 _ _ _ _ _)
   | (with_reducible exact ih2 _ _ _ _ _ _ _ _)
   | (with_reducible exact ih3 _ _ _ _ _ _ _ _ _)
   | (with_reducible exact ih4 _ _ _ _ _ _ _ _ _ _ _ _)
   | (with_reducible exact ih5 _ _ _ _ _ _ _ _ _ _ _ _)
   | (with_reducible exact ih6 _ _ _ _ _ _ _ _ _ _ _)
   | (with_reducible exact ih7 _ _ _ _ _ _ _ _ _ _ _)
   | (with_reducible exact atlas_Find.mono _ _ _ _)
   | (with_reducible exact atlas_Of.mono _ _ _ _)
   | (with_reducible exact shelfmarklaw12_act.mono _ _ _ _ _ _)
   | (with_reducible exact shelfmarklaw12_awake.mono _)
   | (with_reducible exact LeO.refl _)
   | (with_reducible exact LeO.none _)
   | (with_reducible refine LeO.ite ?_ ?_)
   | (with_reducible refine LeO.bind ?_ (fun _ => ?_))
   | exact ih0 _ _ _ _
   | exact ih1 _ _ _ _ _
   | exact ih2 _ _ _ _ _ _ _ _
   | exact ih3 _ _ _ _ _ _ _ _ _
   | exact ih4 _ _ _ _ _ _ _ _ _ _ _ _
   | exact ih5 _ _ _ _ _ _ _ _ _ _ _ _
   | exact ih6 _ _ _ _ _ _ _ _ _ _ _
   | exact ih7 _ _ _ _ _ _ _ _ _ _ _
   | exact atlas_Find.mono _ _ _ _
   | exact atlas_Of.mono _ _ _ _
   | exact shelfmarklaw12_act.mono _ _ _ _ _ _
   | exact shelfmarklaw12_awake.mono _
   | exact LeO.none _
   | refine LeO.ite ?_ ?_
   | refine LeO.bind ?_ (fun _ => ?_)
  ·intro y0 y1 y2 y3 y4
   unfold shelfmarklaw12_AtlasTiles.l0
   repeat' first
   | (with_reducible exact ih0 _ _ _ _)
   | (with_reducible exact ih1 _ _ _ _ _)
   | (with_reducible exact ih2 _ _ _ _ _ _ _ _)
   | (with_reducible exact ih3 _ _ _ _ _ _ _ _ _)
   | (with_reducible exact ih4 _ _ _ _ _ _ _ _ _ _ _ _)
   | (with_reducible exact ih5 _ _ _ _ _ _ _ _ _ _ _ _)
   | (with_reducible exact ih6 _ _ _ _ _ _ _ _ _ _ _)
   | (with_reducible exact ih7 _ _ _ _ _ _ _ _ _ _ _)
   | (with_reducible exact atlas_Find.mono _ _ _ _)
   | (with_reducible exact atlas_Of.mono _ _ _ _)
   | (with_reducible exact shelfmarklaw12_act.mono _ _ _ _ _ _)
   | (with_reducible exact shelfmarklaw12_awake.mono _)
   | (with_reducible exact LeO.refl _)
   | (with_reducible exact LeO.none _)
   | (with_reducible refine LeO.ite ?_ ?_)
   | (with_reducible refine LeO.bind ?_ (fun _ => ?_))
   | exact ih0 _ _ _ _
   | exact ih1 _ _ _ _ _
   | exact ih2 _ _ _ _ _ _ _ _
   | exact ih3 _ _ _ _ _ _ _ _ _
   | exact ih4 _ _ _ _ _ _ _ _ _ _ _ _
   | exact ih5 _ _ _ _ _ _ _ _ _ _ _ _
   | exact ih6 _ _ _ _ _ _ _ _ _ _ _
   | exact ih7 _ _ _ _ _ _ _ _ _ _ _
   | exact atlas_Find.mono _ _ _ _
   | exact atlas_Of.mono _ _ _ _
   | exact shelfmarklaw12_act.mono _ _ _ _ _ _
   | exact shelfmarklaw12_awake.mono _
   | exact LeO.none _
   | refine LeO.ite ?_ ?_
   | refine LeO.bind ?_ (fun _ => ?_)
  ·intro y0 y1 y2 y3 y4 y5 y6 y7
   unfold shelfmarklaw12_AtlasTiles.j2
   repeat' first
   | (with_reducible exact ih0 _ _ _ _)
   | (with_reducible exact ih1 _ _ _ _ _)
   | (with_reducible exact ih2 _ _ _ _ _ _ _ _)
   | (with_reducible exact ih3 _ _ _ _ _ _ _ _ _)
   | (with_reducible exact ih4 _ _ _ _ _ _ _ _ _ _ _ _)
   | (with_reducible exact ih5 _ _ _ _ _ _ _ _ _ _ _ _)
   | (with_reducible exact ih6 _ _ _ _ _ _ _ _ _ _ _)
   | (with_reducible exact ih7 _ _ _ _ _ _ _ _ _ _ _)
   | (with_reducible exact atlas_Find.mono _ _ _ _)
   | (with_reducible exact atlas_Of.mono _ _ _ _)
   | (with_reducible exact shelfmarklaw12_act.mono _ _ _ _ _ _)
   | (with_reducible exact shelfmarklaw12_awake.mono _)
   | (with_reducible exact LeO.refl _)
   | (with_reducible exact LeO.none _)
   | (with_reducible refine LeO.ite ?_ ?_)
   | (with_reducible refine LeO.bind ?_ (fun _ => ?_))
   | exact ih0 _ _ _ _
   | exact ih1 _ _ _ _ _
   | exact ih2 _ _ _ _ _ _ _ _
   | exact ih3 _ _ _ _ _ _ _ _ _
   | exact ih4 _ _ _ _ _ _ _ _ _ _ _ _
   | exact ih5 _ _ _ _ _ _ _ _ _ _ _ _
   | exact ih6 _ _ _ _ _ _ _ _ _ _ _
   | exact ih7 _ _ _ _ _ _ _ _ _ _ _
   | exact atlas_Find.mono _ _ _ _
   | exact atlas_Of.mono _ _ _ _
   | exact shelfmarklaw12_act.mono _ _ _ _ _ _
   | exact shelfmarklaw12_awake.mono _
   | exact LeO.none _
   | refine LeO.ite ?_ ?_
   | refine LeO.bind ?_ (fun _ => ?_)
  ·intro y0 y1 y2 y3 y4 y5 y6 y7 y8
   unfold shelfmarklaw12_AtlasTiles.l1
   repeat' first
   | (with_reducible exact ih0 _ _ _ _)
   | (with_reducible exact ih1 _ _ _ _ _)
   | (with_reducible exact ih2 _ _ _ _ _ _ _ _)
   | (with_reducible exact ih3 _ _ _ _ _ _ _ _ _)
   | (with_reducible exact ih4 _ _ _ _ _ _ _ _ _ _ _ _)
   | (with_reducible exact ih5 _ _ _ _ _ _ _ _ _ _ _ _)
   | (with_reducible exact ih6 _ _ _ _ _ _ _ _ _ _ _)
   | (with_reducible exact ih7 _ _ _ _ _ _ _ _ _ _ _)
   | (with_reducible exact atlas_Find.mono _ _ _ _)
   | (with_reducible exact atlas_Of.mono _ _ _ _)
   | (with_reducible exact shelfmarklaw12_act.mono _ _ _ _ _ _)
   | (with_reducible exact shelfmarklaw12_awake.mono _)
   | (with_reducible exact LeO.refl _)
   | (with_reducible exact LeO.none _)
   | (with_reducible refine LeO.ite ?_ ?_)
   | (with_reducible refine LeO.bind ?_ (fun _ => ?_))
   | exact ih0 _ _ _ _
   | exact ih1 _ _ _ _ _
   | exact ih2 _ _ _ _ _ _ _ _
   | exact ih3 _ _ _ _ _ _ _ _ _
   | exact ih4 _ _ _ _ _ _ _ _ _ _ _ _
   | exact ih5 _ _ _ _ _ _ _ _ _ _ _ _
   | exact ih6 _ _ _ _ _ _ _ _ _ _ _
   | exact ih7 _ _ _ _ _ _ _ _ _ _ _
   | exact atlas_Find.mono _ _ _ _
   | exact atlas_Of.mono _ _ _ _
   | exact shelfmarklaw12_act.mono _ _ _ _ _ _
   | exact shelfmarklaw12_awake.mono _
   | exact LeO.none _
   | refine LeO.ite ?_ ?_
   | refine LeO.bind ?_ (fun _ => ?_)
  ·intro y0 y1 y2 y3 y4 y5 y6 y7 y8 y9 y10 y11
   unfold shelfmarklaw12_AtlasTiles.j4
   repeat' first
   | (with_reducible exact ih0 _ _ _ _)
   | (with_reducible exact ih1 _ _ _ _ _)
   | (with_reducible exact ih2 _ _ _ _ _ _ _ _)
   | (with_reducible exact ih3 _ _ _ _ _ _ _ _ _)
   | (with_reducible exact ih4 _ _ _ _ _ _ _ _ _ _ _ _)
   | (with_reducible exact ih5 _ _ _ _ _ _ _ _ _ _ _ _)
   | (with_reducible exact ih6 _ _ _ _ _ _ _ _ _ _ _)
   | (with_reducible exact ih7 _ _ _ _ _ _ _ _ _ _ _)
   | (with_reducible exact atlas_Find.mono _ _ _ _)
   | (with_reducible exact atlas_Of.mono _ _ _ _)
   | (with_reducible exact shelfmarklaw12_act.mono _ _ _ _ _ _)
   | (with_reducible exact shelfmarklaw12_awake.mono _)
   | (with_reducible exact LeO.refl _)
   | (with_reducible exact LeO.none _)
   | (with_reducible refine LeO.ite ?_ ?_)
   | (with_reducible refine LeO.bind ?_ (fun _ => ?_))
   | exact ih0 _ _ _ _
   | exact ih1 _ _ _ _ _
   | exact ih2 _ _ _ _ _ _ _ _
   | exact ih3 _ _ _ _ _ _ _ _ _
   | exact ih4 _ _ _ _ _ _ _ _ _ _ _ _
   | exact ih5 _ _ _ _ _ _ _ _ _ _ _ _
   | exact ih6 _ _ _ _ _ _ _ _ _ _ _
   | exact ih7 _ _ _ _ _ _ _ _ _ _ _
   | exact atlas_Find.mono _ _ _ _
   | exact atlas_Of.mono _ _ _ _
   | exact shelfmarklaw12_act.mono _ _ _ _ _ _
   | exact shelfmarklaw12_awake.mono _
   | exact LeO.none _
   | refine LeO.ite ?_ ?_
   | refine LeO.bind ?_ (fun _ => ?_)
  ·intro y0 y1 y2 y3 y4 y5 y6 y7 y8 y9 y10 y11
   unfold shelfmarklaw12_AtlasTiles.j5
   repeat' first
   | (with_reducible exact ih0 _ _ _ _)
   | (with_reducible exact ih1 _ _ _ _ _)
   | (with_reducible exact ih2 _ _ _ _ _ _ _ _)
   | (with_reducible exact ih3 _ _ _ _ _ _ _ _ _)
   | (with_reducible exact ih4 _ _ _ _ _ _ _ _ _ _ _ _)
   | (with_reducible exact ih5 _ _ _ _ _ _ _ _ _ _ _ _)
   | (with_reducible exact ih6 _ _ _ _ _ _ _ _ _ _ _)
   | (with_reducible exact ih7 _ _ _ _ _ _ _ _ _ _ _)
   | (with_reducible exact atlas_Find.mono _ _ _ _)
   | (with_reducible exact atlas_Of.mono _ _ _ _)
   | (with_reducible exact shelfmarklaw12_act.mono _ _ _ _ _ _)
   | (with_reducible exact shelfmarklaw12_awake.mono _)
   | (with_reducible exact LeO.refl _)
   | (with_reducible exact LeO.none _)
   | (with_reducible refine LeO.ite ?_ ?_)
   | (with_reducible refine LeO.bind ?_ (fun _ => ?_))
   | exact ih0 _ _ _ _
   | exact ih1 _ _ _ _ _
   | exact ih2 _ _ _ _ _ _ _ _
   | exact ih3 _ _ _ _ _ _ _ _ _
   | exact ih4 _ _ _ _ _ _ _ _ _ _ _ _
   | exact ih5 _ _ _ _ _ _ _ _ _ _ _ _
   | exact ih6 _ _ _ _ _ _ _ _ _ _ _
   | exact ih7 _ _ _ _ _ _ _ _ _ _ _
   | exact atlas_Find.mono _ _ _ _
   | exact atlas_Of.mono _ _ _ _
   | exact shelfmarklaw12_act.mono _ _ _ _ _ _
   | exact shelfmarklaw12_awake.mono _
   | exact LeO.none _
   | refine LeO.ite ?_ ?_
   | refine LeO.bind ?_ (fun _ => ?_)
  ·intro y0 y1 y2 y3 y4 y5 y6 y7 y8 y9 y10
   unfold shelfmarklaw12_AtlasTiles.j6
   repeat' first
   | (with_reducible exact ih0 _ _ _ _)
   | (with_reducible exact ih1 _ _ _ _ _)
   | (with_reducible exact ih2 _ _ _ _ _ _ _ _)
   | (with_reducible exact ih3 _ _ _ _ _ _ _ _ _)
   | (with_reducible exact ih4 _ _ _ _ _ _ _ _ _ _ _ _)
   | (with_reducible exact ih5 _ _ _ _ _ _ _ _ _ _ _ _)
   | (with_reducible exact ih6 _ _ _ _ _ _ _ _ _ _ _)
   | (with_reducible exact ih7 _ _ _ _ _ _ _ _ _ _ _)
   | (with_reducible exact atlas_Find.mono _ _ _ _)
   | (with_reducible exact atlas_Of.mono _ _ _ _)
   | (with_reducible exact shelfmarklaw12_act.mono _ _ _ _ _ _)
   | (with_reducible exact shelfmarklaw12_awake.mono _)
   | (with_reducible exact LeO.refl _)
   | (with_reducible exact LeO.none _)
   | (with_reducible refine LeO.ite ?_ ?_)
   | (with_reducible refine LeO.bind ?_ (fun _ => ?_))
   | exact ih0 _ _ _ _
   | exact ih1 _ _ _ _ _
   | exact ih2 _ _ _ _ _ _ _ _
   | exact ih3 _ _ _ _ _ _ _ _ _
   | exact ih4 _ _ _ _ _ _ _ _ _ _ _ _
   | exact ih5 _ _ _ _ _ _ _ _ _ _ _ _
   | exact ih6 _ _ _ _ _ _ _ _ _ _ _
   | exact ih7 _ _ _ _ _ _ _ _ _ _ _
   | exact atlas_Find.mono _ _ _ _
   | exact atlas_Of.mono _ _ _ _
   | exact shelfmarklaw12_act.mono _ _ _ _ _ _
   | exact shelfmarklaw12_awake.mono _
   | exact LeO.none _
   | refine LeO.ite ?_ ?_
   | refine LeO.bind ?_ (fun _ => ?_)
  ·intro y0 y1 y2 y3 y4 y5 y6 y7 y8 y9 y10
   unfold shelfmarklaw12_AtlasTiles.l2
   repeat' first
   | (with_reducible exact ih0 _ _ _ _)
   | (with_reducible exact ih1 _ _ _ _ _)
   | (with_reducible exact ih2 _ _ _ _ _ _ _ _)
   | (with_reducible exact ih3 _ _ _ _ _ _ _ _ _)
   | (with_reducible exact ih4 _ _ _ _ _ _ _ _ _ _ _ _)
   | (with_reducible exact ih5 _ _ _ _ _ _ _ _ _ _ _ _)
   | (with_reducible exact ih6 _ _ _ _ _ _ _ _ _ _ _)
   | (with_reducible exact ih7 _ _ _ _ _ _ _ _ _ _ _)
   | (with_reducible exact atlas_Find.mono _ _ _ _)
   | (with_reducible exact atlas_Of.mono _ _ _ _)
   | (with_reducible exact shelfmarklaw12_act.mono _ _ _ _ _ _)
   | (with_reducible exact shelfmarklaw12_awake.mono _)
   | (with_reducible exact LeO.refl _)
   | (with_reducible exact LeO.none _)
   | (with_reducible refine LeO.ite ?_ ?_)
   | (with_reducible refine LeO.bind ?_ (fun _ => ?_))
   | exact ih0 _ _ _ _
   | exact ih1 _ _ _ _ _
   | exact ih2 _ _ _ _ _ _ _ _
   | exact ih3 _ _ _ _ _ _ _ _ _
   | exact ih4 _ _ _ _ _ _ _ _ _ _ _ _
   | exact ih5 _ _ _ _ _ _ _ _ _ _ _ _
   | exact ih6 _ _ _ _ _ _ _ _ _ _ _
   | exact ih7 _ _ _ _ _ _ _ _ _ _ _
   | exact atlas_Find.mono _ _ _ _
   | exact atlas_Of.mono _ _ _ _
   | exact shelfmarklaw12_act.mono _ _ _ _ _ _
   | exact shelfmarklaw12_awake.mono _
   | exact LeO.none _
   | refine LeO.ite ?_ ?_
   | refine LeO.bind ?_ (fun _ => ?_)
theorem shelfmarklaw12_AtlasTiles.mono : ∀ a0 a1 a2 k, LeO (shelfmarklaw12_AtlasTiles.f k a0 a1 a2) (shelfmarklaw12_AtlasTiles.f (k + 1) a0 a1 a2) := by
 intro a0 a1 a2 k
 obtain ⟨ih0, ih1, ih2, ih3, ih4, ih5, ih6, ih7⟩ := shelfmarklaw12_AtlasTiles.mono_l k
 unfold shelfmarklaw12_AtlasTiles.f
 repeat' first
   | (with_reducible exact ih0 _ _ _ _)
   | (with_reducible exact ih1 _ _ _ _ _)
   | (with_reducible exact ih2 _ _ _ _ _ _ _ _)
   | (with_reducible exact ih3 _ _ _ _ _ _ _ _ _)
   | (with_reducible exact ih4 _ _ _ _ _ _ _ _ _ _ _ _)
   | (with_reducible exact ih5 _ _ _ _ _ _ _ _ _ _ _ _)
   | (with_reducible exact ih6 _ _ _ _ _ _ _ _ _ _ _)
   | (with_reducible exact ih7 _ _ _ _ _ _ _ _ _ _ _)
   | (with_reducible exact atlas_Find.mono _ _ _ _)
   | (with_reducible exact atlas_Of.mono _ _ _ _)
   | (with_reducible exact shelfmarklaw12_act.mono _ _ _ _ _ _)
   | (with_reducible exact shelfmarklaw12_awake.mono _)
   | (with_reducible exact LeO.refl _)
   | (with_reducible exact LeO.none _)
   | (with_reducible refine LeO.ite ?_ ?_)
   | (with_reducible refine LeO.bind ?_ (fun _ => ?_))
   | exact ih0 _ _ _ _
   | exact ih1 _ _ _ _ _
   | exact ih2 _ _ _ _ _ _ _ _
   | exact ih3 _ _ _ _ _ _ _ _ _
   | exact ih4 _ _ _ _ _ _ _ _ _ _ _ _
   | exact ih5 _ _ _ _ _ _ _ _ _ _ _ _
   | exact ih6 _ _ _ _ _ _ _ _ _ _ _
   | exact ih7 _ _ _ _ _ _ _ _ _ _ _
   | exact atlas_Find.mono _ _ _ _
   | exact atlas_Of.mono _ _ _ _
   | exact shelfmarklaw12_act.mono _ _ _ _ _ _
   | exact shelfmarklaw12_awake.mono _
   | exact LeO.none _
   | refine LeO.ite ?_ ?_
   | refine LeO.bind ?_ (fun _ => ?_)
def shelfmarklaw12_AtlasTiles.T13 : Bool × List (List Nat × List Nat) := (true, [([], []), ([], []), ([], []), ([1, 2], [1, 2]), ([3], [3]), ([0, 4], [0, 4]), ([5], [5]), ([6], [6]), ([6], [6]), ([], []), ([9, 7, 5, 0, 1, 2, 3, 4, 5, 6, 7, 9], [7, 9]), ([8, 10, 0, 1, 2, 3, 4, 5, 6, 7, 8, 9, 10], [8])])
def shelfmarklaw12_AtlasTiles.B13 : List Nat := [0, 0, 0, 6, 14, 31, 63, 127, 127, 0, 767, 2047]
theorem shelfmarklaw12_AtlasTiles.tab13 : rtab .any (opsOf Try.f7 13) = shelfmarklaw12_AtlasTiles.T13 := by kernel_rfl
theorem shelfmarklaw12_AtlasTiles.bits13 : waitsOk shelfmarklaw12_AtlasTiles.T13.2 shelfmarklaw12_AtlasTiles.B13 = true := by kernel_rfl
def shelfmarklaw12_AtlasTiles.T19 : Bool × List (List Nat × List Nat) := (true, [([], []), ([], []), ([], []), ([1, 2], [1, 2]), ([3], [3]), ([4], [4]), ([0, 5], [0, 5]), ([6], [6]), ([7], [7]), ([7], [7]), ([8, 6, 0, 1, 2, 3, 4, 5, 6, 7, 8], [8]), ([9, 10, 0, 1, 2, 3, 4, 5, 6, 7, 8, 9, 10], [9])])
def shelfmarklaw12_AtlasTiles.B19 : List Nat := [0, 0, 0, 6, 14, 30, 63, 127, 255, 255, 511, 2047]
theorem shelfmarklaw12_AtlasTiles.tab19 : rtab .any (opsOf Try.f7 19) = shelfmarklaw12_AtlasTiles.T19 := by kernel_rfl
theorem shelfmarklaw12_AtlasTiles.bits19 : waitsOk shelfmarklaw12_AtlasTiles.T19.2 shelfmarklaw12_AtlasTiles.B19 = true := by kernel_rfl
def shelfmarklaw12_AtlasTiles.T25 : Bool × List (List Nat × List Nat) := (true, [([], []), ([], []), ([], []), ([1, 2], [1, 2]), ([3], [3]), ([0, 4], [0, 4]), ([5], [5]), ([6], [6]), ([6], [6]), ([7, 5, 0, 1, 2, 3, 4, 5, 6, 7], [7]), ([8, 9, 0, 1, 2, 3, 4, 5, 6, 7, 8, 9], [8])])
def shelfmarklaw12_AtlasTiles.B25 : List Nat := [0, 0, 0, 6, 14, 31, 63, 127, 127, 255, 1023]
theorem shelfmarklaw12_AtlasTiles.tab25 : rtab .any (opsOf Try.f7 25) = shelfmarklaw12_AtlasTiles.T25 := by kernel_rfl
theorem shelfmarklaw12_AtlasTiles.bits25 : waitsOk shelfmarklaw12_AtlasTiles.T25.2 shelfmarklaw12_AtlasTiles.B25 = true := by kernel_rfl
def shelfmarklaw12_AtlasTiles.T26 : Bool × List (List Nat × List Nat) := (true, [([], []), ([], []), ([], []), ([1, 2], [1, 2]), ([3], [3]), ([0, 4], [0, 4]), ([5], [5]), ([6], [6]), ([6], [6]), ([7, 5, 0, 1, 2, 3, 4, 5, 6, 7], [7]), ([8, 9, 0, 1, 2, 3, 4, 5, 6, 7, 8, 9], [8])])
def shelfmarklaw12_AtlasTiles.B26 : List Nat := [0, 0, 0, 6, 14, 31, 63, 127, 127, 255, 1023]
theorem shelfmarklaw12_AtlasTiles.tab26 : rtab .any (opsOf Try.f7 26) = shelfmarklaw12_AtlasTiles.T26 := by kernel_rfl
theorem shelfmarklaw12_AtlasTiles.bits26 : waitsOk shelfmarklaw12_AtlasTiles.T26.2 shelfmarklaw12_AtlasTiles.B26 = true := by kernel_rfl
def shelfmarklaw12_AtlasTiles.T39 : Bool × List (List Nat × List Nat) := (true, [([], []), ([0], [0]), ([1], [1]), ([1], [1]), ([2, 3, 1], [1, 2, 3]), ([4, 1], [1, 4]), ([1], [1]), ([6, 1], [1, 6]), ([5, 7, 1], [1, 5, 7]), ([1, 8], [1, 8]), ([9, 1], [9]), ([10], [10]), ([11, 10], [10, 11]), ([12, 10], [10, 12]), ([13, 10, 10], [10, 13]), ([14], [14]), ([14], [14]), ([15, 16, 14], [14, 15, 16]), ([17, 14], [14, 17]), ([14], [14]), ([19, 14], [14, 19]), ([18, 20, 14], [14, 18, 20]), ([14, 21, 10], [10, 14, 21]), ([10, 22], [10, 22])])
def shelfmarklaw12_AtlasTiles.B39 : List Nat := [0, 1, 3, 3, 15, 31, 3, 67, 255, 511, 1023, 2047, 4095, 8191, 16383, 32767, 32767, 131071, 262143, 32767, 557055, 2097151, 4194303, 8388607]
theorem shelfmarklaw12_AtlasTiles.tab39 : rtab .any (opsOf Try.f7 39) = shelfmarklaw12_AtlasTiles.T39 := by kernel_rfl
theorem shelfmarklaw12_AtlasTiles.bits39 : waitsOk shelfmarklaw12_AtlasTiles.T39.2 shelfmarklaw12_AtlasTiles.B39 = true := by kernel_rfl

end Go.Proofs.Ytmgjccpolkhhhaa.PAll
