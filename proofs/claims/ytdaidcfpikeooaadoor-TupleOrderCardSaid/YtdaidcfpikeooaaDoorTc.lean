/- DERIVED. How two rows stand, as the layer and as its reference tell it. Conditions: those that each lemma names. -/
import Derived.Test.YtdaidcfpikeooaaDoorPAllx15
import Derived.Test.YtdaidcfpikeooaaDoorPAllx16
import Derived.Test.YtdaidcfpikeooaaDoorPAllx17
import Derived.Test.YtdaidcfpikeooaaDoorPAllx6
import Derived.Test.YtdaidcfpikeooaaDoorTl
namespace Go.Proofs.YtdaidcfpikeooaaDoor.Tc
open Go.RowKit Go.Proofs.YtdaidcfpikeooaaDoor.PAll Go.Proofs.YtdaidcfpikeooaaDoorW.PrintWords Go.Proofs.YtdaidcfpikeooaaDoorW.PrintLast Go.Proofs.YtdaidcfpikeooaaDoor.Hl Go.Proofs.YtdaidcfpikeooaaDoor.Tl
set_option linter.unusedSimpArgs false
set_option linter.unusedVariables false
/-- How two numbers, two texts, two values, two rows stand. -/
def cmpI (a b : Int) : Int := if a < b then -1 else if b < a then 1 else 0
def cmpS (a b : ByteArray) : Int := if Op.bytesLess a.toList b.toList = true then -1 else if Op.bytesLess b.toList a.toList = true then 1 else 0
def valC (v w : S37) : Int := if cmpI v.f0 w.f0 ≠ 0 then cmpI v.f0 w.f0 else if cmpI v.f1 w.f1 ≠ 0 then cmpI v.f1 w.f1 else cmpS v.f2 w.f2
def cmpR : List S37 → List S37 → Int
  | [], [] => 0
  | [], _ :: _ => -1
  | _ :: _, [] => 1
  | v :: a, w :: b => if valC v w = 0 then cmpR a b else valC v w
theorem cmpI_eq (a b : Int) : cmp_Compare_int.f a b = some (cmpI a b) := by
  unfold cmp_Compare_int.f cmp_isNaN_int.f cmpI
  simp only [bne_self_eq_false, Option.bind_some, Bool.false_eq_true, if_false, gt_iff_lt]
  split
  · rfl
  · split <;> rfl
theorem cmpS_eq (a b : ByteArray) : cmp_Compare_string.f a b = some (cmpS a b) := by
  unfold cmp_Compare_string.f cmp_isNaN_string.f cmpS
  simp only [bne_self_eq_false, Option.bind_some, Bool.false_eq_true, if_false]
  split
  · rfl
  · split <;> rfl
theorem or_l0 (l : List Int) (hl : l.length < 1000) : ∀ (m i : Nat), i + m = l.length → Ev (fun k => cmp_Or_int.l0 k 0 l (l.length : Int) (i : Int)) (((l.drop i).find? (fun x => x != 0)).getD 0)
  | 0, i, h => by
    refine Ev.step (fun _ => cmp_Or_int.l0.eq_2 ..) ?_
    rw [List.drop_eq_nil_of_le (by omega)]
    simp only [if_neg (show ¬ (i : Int) < (l.length : Int) by omega)]
    exact Ev.now _
  | m + 1, i, h => by
    have hi : i < l.length := by omega
    have hr : rd l (i : Int) = l[i] := by
      unfold rd
      rw [Int.toNat_natCast, List.getD_eq_getElem?_getD, List.getElem?_eq_getElem hi]; rfl
    refine Ev.step (fun _ => cmp_Or_int.l0.eq_2 ..) ?_
    simp only [if_pos (show (i : Int) < (l.length : Int) by omega), if_pos (show (0 : Int) ≤ (i : Int) by omega), hr]
    rw [List.drop_eq_getElem_cons hi, List.find?_cons]
    by_cases hz : l[i] = 0
    · simp only [hz, if_true, bne_self_eq_false]
      rw [w64 (by omega) (by omega)]
      exact or_l0 l hl m (i + 1) (by omega)
    · have hz' : (l[i] != 0) = true := by simpa using hz
      simp only [if_neg hz, hz']
      exact Ev.now _
theorem val_ev (v w : S37) : Ev (fun k => tuple_Compare_1_v26.f k v.f0 v.f1 v.f2 w.f0 w.f1 w.f2) (valC v w) := by
  show Ev (fun k => tuple_Compare_1.f k v.f0 v.f1 v.f2 w.f0 w.f1 w.f2) (valC v w)
  unfold tuple_Compare_1.f
  simp only [cmpI_eq, cmpS_eq, Option.bind_some]
  refine Ev.bind (a := valC v w) ?_ (Ev.now _)
  unfold cmp_Or_int.f
  have := or_l0 [cmpI v.f0 w.f0, cmpI v.f1 w.f1, cmpS v.f2 w.f2] (by simp) 3 0 (by simp)
  have e : ((([cmpI v.f0 w.f0, cmpI v.f1 w.f1, cmpS v.f2 w.f2].drop 0).find? (fun x => x != 0)).getD 0) = valC v w := by
    unfold valC
    simp only [List.drop_zero, List.find?_cons, List.find?_nil]
    by_cases h1 : cmpI v.f0 w.f0 = 0
    · by_cases h2 : cmpI v.f1 w.f1 = 0
      · by_cases h3 : cmpS v.f2 w.f2 = 0
        · simp [h1, h2, h3]
        · have h3' : (cmpS v.f2 w.f2 != 0) = true := by simpa using h3
          simp [h1, h2, h3']
      · have h2' : (cmpI v.f1 w.f1 != 0) = true := by simpa using h2
        simp [h1, h2, h2']
    · have h1' : (cmpI v.f0 w.f0 != 0) = true := by simpa using h1
      simp [h1, h1']
  rw [e] at this
  exact this
theorem cmp_l0 (a b : List S37) (ha : a.length ≤ 4) (hb : b.length ≤ 4) : ∀ (m i : Nat), i + m = a.length → i ≤ b.length → Ev (fun k => slices_CompareFunc_api_Val_api_Val_api_Val_api_Val_at_tuple_Compare_1.l0 k a b a (a.length : Int) (i : Int)) (cmpR (a.drop i) (b.drop i))
  | 0, i, h, hi => by
    refine Ev.step (fun _ => slices_CompareFunc_api_Val_api_Val_api_Val_api_Val_at_tuple_Compare_1.l0.eq_2 ..) ?_
    rw [List.drop_eq_nil_of_le (show a.length ≤ i by omega)]
    simp only [if_neg (show ¬ (i : Int) < (a.length : Int) by omega)]
    by_cases h2 : i < b.length
    · rw [drop_get b i h2]
      simp only [if_pos (show (a.length : Int) < (b.length : Int) by omega)]
      exact Ev.now _
    · rw [List.drop_eq_nil_of_le (show b.length ≤ i by omega)]
      simp only [if_neg (show ¬ (a.length : Int) < (b.length : Int) by omega)]
      exact Ev.now _
  | m + 1, i, h, hi => by
    have hia : i < a.length := by omega
    refine Ev.step (fun _ => slices_CompareFunc_api_Val_api_Val_api_Val_api_Val_at_tuple_Compare_1.l0.eq_2 ..) ?_
    rw [drop_get a i hia]
    simp only [if_pos (show (i : Int) < (a.length : Int) by omega), if_pos (show (0 : Int) ≤ (i : Int) by omega)]
    by_cases h2 : i < b.length
    · rw [drop_get b i h2]
      simp only [if_neg (show ¬ ((i : Int) ≥ (b.length : Int)) by omega), if_pos (show (i : Int) < (b.length : Int) by omega), rd_get a i hia, rd_get b i h2]
      refine Ev.bind (val_ev _ _) ?_
      unfold cmpR
      by_cases h3 : valC a[i] b[i] = 0
      · simp only [h3, if_true]
        rw [w64 (by omega) (by omega)]
        exact cmp_l0 a b ha hb m (i + 1) (by omega) (by omega)
      · simp only [if_neg h3]
        exact Ev.now _
    · rw [List.drop_eq_nil_of_le (show b.length ≤ i by omega)]
      simp only [if_pos (show ((i : Int) ≥ (b.length : Int)) by omega)]
      exact Ev.now _
/-- What Compare answers. -/
def cmpA (a b : List S37) : Int := if rowE a = 0 then (if rowE b = 0 then cmpR a b else 0) else 0
theorem row_ok {l : List S37} (h : rowE l = 0) : l.length ≤ 4 ∧ l.all good = true := by
  unfold rowE at h
  split at h
  · cases h
  · split at h
    · exact ⟨by omega, by assumption⟩
    · cases h
theorem compare_ev (a b : List S37) : Ev (fun k => tuple_Compare.f k a b) (cmpA a b) := by
  unfold tuple_Compare.f cmpA
  refine Ev.bind (row_ev a) ?_
  by_cases h : rowE a = 0
  · simp only [h, if_true]
    refine Ev.bind (row_ev b) ?_
    by_cases h2 : rowE b = 0
    · simp only [h2, if_true]
      refine Ev.bind (a := cmpR a b) ?_ (Ev.now _)
      unfold slices_CompareFunc_api_Val_api_Val_api_Val_api_Val_at_tuple_Compare_1.f
      have := cmp_l0 a b (row_ok h).1 (row_ok h2).1 a.length 0 (by omega) (by omega)
      rwa [List.drop_zero, List.drop_zero] at this
    · simp only [if_neg h2]
      exact Ev.now _
  · simp only [if_neg h]
    exact Ev.now _
def belowB (v w : S37) : Bool := if v.f0 = w.f0 then (if v.f0 = 1 then decide (v.f1 < w.f1) else Op.bytesLess v.f2.toList w.f2.toList) else decide (v.f0 < w.f0)
theorem below_eq (v w : S37) : shelfmarkref03_Below.f v.f0 v.f1 v.f2 w.f0 w.f1 w.f2 = some (belowB v w) := by
  unfold shelfmarkref03_Below.f belowB
  split
  · split <;> rfl
  · rfl
theorem less_irr (l : List UInt8) : Op.bytesLess l l = false := by
  induction l with
  | nil => rfl
  | cons x l ih => simp [Op.bytesLess, ih]
theorem val_below (v w : S37) (hv : good v = true) (hw : good w = true) : valC v w = if belowB v w = true then -1 else if belowB w v = true then 1 else 0 := by
  have hv' : goodB v.f0 v.f1 v.f2 = true := hv
  have hw' : goodB w.f0 w.f1 w.f2 = true := hw
  unfold goodB at hv' hw'
  unfold valC belowB
  by_cases h0 : v.f0 = w.f0
  · have e0 : cmpI v.f0 w.f0 = 0 := by unfold cmpI; rw [h0]; simp
    rw [if_neg (by simpa using e0), if_pos h0, if_pos h0.symm]
    by_cases h1 : v.f0 = 1
    · have h1w : w.f0 = 1 := by omega
      rw [if_neg (by omega), if_pos h1] at hv'
      rw [if_neg (by omega), if_pos h1w] at hw'
      have ev : v.f2.toList = [] := by simpa using hv'
      have ew : w.f2.toList = [] := by simpa using hw'
      have es : cmpS v.f2 w.f2 = 0 := by unfold cmpS; rw [ev, ew]; rfl
      rw [if_pos h1, if_pos h1w, es]
      unfold cmpI
      by_cases a1 : v.f1 < w.f1
      · simp [a1]
      · by_cases a2 : w.f1 < v.f1
        · simp [a1, a2]
        · simp [a1, a2]
    · have h1w : ¬ w.f0 = 1 := by omega
      have en : v.f1 = 0 ∧ w.f1 = 0 := by
        by_cases z : v.f0 = 0
        · rw [if_pos z] at hv'; rw [if_pos (show w.f0 = 0 by omega)] at hw'
          simp at hv' hw'
          exact ⟨hv'.1, hw'.1⟩
        · rw [if_neg z, if_neg h1] at hv'; rw [if_neg (by omega), if_neg h1w] at hw'
          by_cases z2 : v.f0 = 2
          · rw [if_pos z2] at hv'; rw [if_pos (show w.f0 = 2 by omega)] at hw'
            simp at hv' hw'
            exact ⟨hv'.1, hw'.1⟩
          · rw [if_neg z2] at hv'; cases hv'
      have e1 : cmpI v.f1 w.f1 = 0 := by unfold cmpI; rw [en.1, en.2]; rfl
      rw [if_neg (by simpa using e1), if_neg h1, if_neg h1w]
      rfl
  · have h0' : ¬ w.f0 = v.f0 := fun e => h0 e.symm
    by_cases a1 : v.f0 < w.f0
    · have e0 : cmpI v.f0 w.f0 = -1 := by unfold cmpI; rw [if_pos a1]
      rw [e0, if_pos (by decide), if_neg h0, decide_eq_true a1, if_pos rfl]
    · have a2 : w.f0 < v.f0 := by omega
      have e0 : cmpI v.f0 w.f0 = 1 := by unfold cmpI; rw [if_neg a1, if_pos a2]
      rw [e0, if_pos (by decide), if_neg h0, if_neg h0', decide_eq_false a1, decide_eq_true a2, if_neg (by decide), if_pos rfl]
theorem refCmp_l0 (a b : List S37) (ha : a.length ≤ 4) (hb : b.length ≤ 4) (ga : a.all good = true) (gb : b.all good = true) : ∀ (m i : Nat), i + m = a.length → i ≤ b.length → Ev (fun k => shelfmarkref03_Compare.l0 k a b (i : Int)) (cmpR (a.drop i) (b.drop i)) := by
  have last : ∀ i : Nat, (i ≤ a.length) → i ≤ b.length → (i = a.length ∨ i = b.length) → Ev (fun k => shelfmarkref03_Compare.j2 k a b (i : Int) false) (cmpR (a.drop i) (b.drop i)) := by
    intro i h1 h2 h3
    refine Ev.step (fun _ => shelfmarkref03_Compare.j2.eq_2 ..) ?_
    simp only [Bool.false_eq_true, if_false]
    by_cases e1 : i < a.length
    · rw [drop_get a i e1, List.drop_eq_nil_of_le (show b.length ≤ i by omega)]
      simp only [if_neg (show ¬ (a.length : Int) < (b.length : Int) by omega), if_pos (show (a.length : Int) > (b.length : Int) by omega)]
      exact Ev.now _
    · rw [List.drop_eq_nil_of_le (show a.length ≤ i by omega)]
      by_cases e2 : i < b.length
      · rw [drop_get b i e2]
        simp only [if_pos (show (a.length : Int) < (b.length : Int) by omega)]
        exact Ev.now _
      · rw [List.drop_eq_nil_of_le (show b.length ≤ i by omega)]
        simp only [if_neg (show ¬ (a.length : Int) < (b.length : Int) by omega), if_neg (show ¬ (a.length : Int) > (b.length : Int) by omega)]
        exact Ev.now _
  intro m
  induction m with
  | zero =>
    intro i h hi
    refine Ev.step (fun _ => shelfmarkref03_Compare.l0.eq_2 ..) ?_
    simp only [if_neg (show ¬ (i : Int) < (a.length : Int) by omega)]
    exact last i (by omega) hi (.inl (by omega))
  | succ m ih =>
    intro i h hi
    have hia : i < a.length := by omega
    refine Ev.step (fun _ => shelfmarkref03_Compare.l0.eq_2 ..) ?_
    simp only [if_pos (show (i : Int) < (a.length : Int) by omega)]
    by_cases h2 : i < b.length
    · have h2' : (i : Int) < (b.length : Int) := by omega
      simp only [h2', decide_true]
      refine Ev.step (fun _ => shelfmarkref03_Compare.j2.eq_2 ..) ?_
      have g1 : good a[i] = true := List.all_eq_true.1 ga _ (List.getElem_mem hia)
      have g2 : good b[i] = true := List.all_eq_true.1 gb _ (List.getElem_mem h2)
      simp only [if_true, if_pos (show (i : Int) < (a.length : Int) by omega), if_pos (show (0 : Int) ≤ (i : Int) by omega), if_pos h2', rd_get a i hia, rd_get b i h2, below_eq, Option.bind_some]
      rw [drop_get a i hia, drop_get b i h2]
      unfold cmpR
      rw [val_below _ _ g1 g2]
      by_cases k1 : belowB a[i] b[i] = true
      · simp only [k1, if_true]
        simpa using Ev.now (-1 : Int)
      · by_cases k2 : belowB b[i] a[i] = true
        · simp only [k1, k2, if_true, Bool.false_eq_true, if_false]
          simpa using Ev.now (1 : Int)
        · simp only [k1, k2, Bool.false_eq_true, if_false, if_true]
          rw [w64 (by omega) (by omega)]
          exact ih (i + 1) (by omega) (by omega)
    · simp only [decide_eq_false (show ¬ (i : Int) < (b.length : Int) by omega)]
      exact last i (by omega) hi (.inr (by omega))
theorem refCompare_ev (a b : List S37) : Ev (fun k => shelfmarkref03_Compare.f k a b) (cmpA a b) := by
  have none_ : Ev (fun k => shelfmarkref03_Compare.j0 k a b true) 0 := by
    refine Ev.step (fun _ => shelfmarkref03_Compare.j0.eq_2 ..) ?_
    simp only [if_true]
    exact Ev.now _
  unfold shelfmarkref03_Compare.f cmpA
  refine Ev.bind (refRow_ev a) ?_
  by_cases h : rowE a = 0
  · simp only [h, if_true]
    refine Ev.bind (refRow_ev b) ?_
    by_cases h2 : rowE b = 0
    · simp only [h2, if_true, bne_self_eq_false]
      refine Ev.step (fun _ => shelfmarkref03_Compare.j0.eq_2 ..) ?_
      simp only [Bool.false_eq_true, if_false]
      have := refCmp_l0 a b (row_ok h).1 (row_ok h2).1 (row_ok h).2 (row_ok h2).2 a.length 0 (by omega) (by omega)
      rwa [List.drop_zero, List.drop_zero] at this
    · have h2' : (rowE b != 0) = true := by simpa using h2
      simp only [if_neg h2, h2']
      exact none_
  · simp only [if_neg h]
    exact none_
end Go.Proofs.YtdaidcfpikeooaaDoor.Tc
