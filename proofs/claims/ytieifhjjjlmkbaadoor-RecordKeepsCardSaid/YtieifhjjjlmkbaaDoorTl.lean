/- DERIVED. What the functions of the layer of rows and of its reference come to, from some number of rounds on: good values, rows, light rows, same rows. Conditions: those that each lemma names. -/
import Derived.Test.YtieifhjjjlmkbaaDoorPAllx5
import Derived.Test.YtieifhjjjlmkbaaDoorPAllx7
import Derived.Test.YtieifhjjjlmkbaaDoorPAllx10
import Derived.Test.YtieifhjjjlmkbaaDoorPAllx12
import Derived.Test.YtieifhjjjlmkbaaDoorPAllx13
namespace Go.Proofs.YtieifhjjjlmkbaaDoor.Tl
open Go.RowKit Go.Proofs.YtieifhjjjlmkbaaDoor.PAll Go.Proofs.YtieifhjjjlmkbaaDoorW.PrintWords Go.Proofs.YtieifhjjjlmkbaaDoorW.PrintLast Go.Proofs.YtieifhjjjlmkbaaDoor.Hl
set_option linter.unusedSimpArgs false
set_option linter.unusedVariables false
theorem w64 {x : Int} (h0 : -9223372036854775808 ≤ x) (h1 : x < 9223372036854775808) : wrap64 x = x := by
  exact Go.IntWalk.wrap64_in x ⟨h0, by omega⟩
/-- Is a value good? -/
def goodB (k n : Int) (s : ByteArray) : Bool := if k = 0 then (n == 0 && (s.toList == ([] : List UInt8))) else if k = 1 then s.toList == ([] : List UInt8) else if k = 2 then (n == 0 && decide ((s.size : Int) ≤ 32)) else false
def good (v : S41) : Bool := goodB v.f0 v.f1 v.f2
theorem Good_eq (k n : Int) (s : ByteArray) : tuple_Good.f k n s = some (goodB k n s) := by
  unfold tuple_Good.f goodB
  by_cases h0 : k = 0
  · simp [h0]
  · by_cases h1 : k = 1
    · simp [h1]
    · by_cases h2 : k = 2
      · by_cases h3 : n = 0
        · simp [h2, h3]
        · simp [h2, h3]
      · simp [h0, h1, h2]
theorem refGood_eq (k n : Int) (s : ByteArray) : shelfmarkref03_Good.f k n s = some (goodB k n s) := by
  unfold shelfmarkref03_Good.f goodB
  by_cases h0 : k = 0
  · subst h0
    by_cases h3 : n = 0
    · by_cases h4 : s.toList = ([] : List UInt8) <;> simp [h3, h4]
    · simp [h3]
  · by_cases h1 : k = 1
    · subst h1
      by_cases h4 : s.toList = ([] : List UInt8) <;> simp [h4]
    · by_cases h2 : k = 2
      · subst h2
        by_cases h3 : n = 0
        · simp [h3]
        · simp [h3]
      · simp [h0, h1, h2]
theorem row1_eq (k n : Int) (s : ByteArray) : tuple_row_1_v11.f k n s = some (!goodB k n s) := by
  show tuple_row_1.f k n s = _
  unfold tuple_row_1.f
  rw [Good_eq]
  rfl
theorem rd_get (l : List S41) (i : Nat) (h : i < l.length) : rd_T41 l (i : Int) = l[i] := by
  unfold rd_T41
  rw [Int.toNat_natCast, List.getD_eq_getElem?_getD, List.getElem?_eq_getElem h]
  rfl
theorem drop_get (l : List S41) (i : Nat) (h : i < l.length) : l.drop i = l[i] :: l.drop (i + 1) := List.drop_eq_getElem_cons h
/-- The error of a row. -/
def rowE (l : List S41) : Int := if 4 < l.length then 4 else if l.all good then 0 else 1
theorem index_l0 (l : List S41) (hl : l.length ≤ 4) : ∀ m i : Nat, i + m = l.length → ∃ r : Int, Ev (fun k => slices_IndexFunc_api_Val_api_Val_at_tuple_row_1.l0 k l (l.length : Int) (i : Int)) r ∧ (decide (r ≥ 0) = !((l.drop i).all good))
  | 0, i, h => by
    refine ⟨-1, Ev.step (fun _ => slices_IndexFunc_api_Val_api_Val_at_tuple_row_1.l0.eq_2 ..) ?_, ?_⟩
    · simp only [if_neg (show ¬ (i : Int) < (l.length : Int) by omega)]
      exact Ev.now _
    · rw [List.drop_eq_nil_of_le (by omega)]; rfl
  | m + 1, i, h => by
    have hi : i < l.length := by omega
    by_cases hg : good l[i] = true
    · obtain ⟨r, hr, hd⟩ := index_l0 l hl m (i + 1) (by omega)
      refine ⟨r, Ev.step (fun _ => slices_IndexFunc_api_Val_api_Val_at_tuple_row_1.l0.eq_2 ..) ?_, ?_⟩
      · have hg' : goodB (l[i]).f0 (l[i]).f1 (l[i]).f2 = true := hg
        simp only [if_pos (show (i : Int) < (l.length : Int) by omega), if_pos (show (0 : Int) ≤ (i : Int) by omega), row1_eq, Option.bind_some, rd_get l i hi, hg', Bool.not_true, Bool.false_eq_true, if_false]
        rw [w64 (by omega) (by omega)]
        exact hr
      · rw [hd, drop_get l i hi, List.all_cons, hg, Bool.true_and]
    · have hg0 : good l[i] = false := by simpa using hg
      refine ⟨i, Ev.step (fun _ => slices_IndexFunc_api_Val_api_Val_at_tuple_row_1.l0.eq_2 ..) ?_, ?_⟩
      · have hg' : goodB (l[i]).f0 (l[i]).f1 (l[i]).f2 = false := hg0
        simp only [if_pos (show (i : Int) < (l.length : Int) by omega), if_pos (show (0 : Int) ≤ (i : Int) by omega), row1_eq, Option.bind_some, rd_get l i hi, hg', Bool.not_false, if_true]
        exact Ev.now _
      · rw [drop_get l i hi, List.all_cons, hg0, Bool.false_and]
        simp
theorem row_ev (l : List S41) : Ev (fun k => tuple_row.f k l) (rowE l) := by
  unfold tuple_row.f rowE
  by_cases h : 4 < l.length
  · simp only [if_pos h, if_pos (show (l.length : Int) > 4 by omega)]
    exact Ev.now _
  · simp only [if_neg h, if_neg (show ¬ (l.length : Int) > 4 by omega)]
    obtain ⟨r, hr, hd⟩ := index_l0 l (by omega) l.length 0 (by omega)
    refine Ev.bind (a := decide (r ≥ 0)) ?_ ?_
    · unfold slices_ContainsFunc_api_Val_api_Val_at_tuple_row_1.f slices_IndexFunc_api_Val_api_Val_at_tuple_row_1.f
      exact Ev.bind hr (Ev.now _)
    · rw [hd, List.drop_zero]
      cases l.all good
      · simpa using Ev.now (1 : Int)
      · simpa using Ev.now (0 : Int)
theorem refRow_l0 (l : List S41) (hl : l.length ≤ 4) : ∀ m i : Nat, i + m = l.length → Ev (fun k => shelfmarkref03_Row.l0 k l (i : Int)) (if (l.drop i).all good then 0 else 1)
  | 0, i, h => by
    refine Ev.step (fun _ => shelfmarkref03_Row.l0.eq_2 ..) ?_
    rw [List.drop_eq_nil_of_le (by omega)]
    simp only [if_neg (show ¬ (i : Int) < (l.length : Int) by omega)]
    exact Ev.now _
  | m + 1, i, h => by
    have hi : i < l.length := by omega
    refine Ev.step (fun _ => shelfmarkref03_Row.l0.eq_2 ..) ?_
    simp only [if_pos (show (i : Int) < (l.length : Int) by omega), if_pos (show (0 : Int) ≤ (i : Int) by omega), refGood_eq, Option.bind_some, rd_get l i hi]
    rw [drop_get l i hi, List.all_cons]
    by_cases hg : good l[i] = true
    · have hg' : goodB (l[i]).f0 (l[i]).f1 (l[i]).f2 = true := hg
      simp only [hg', hg, Bool.true_and, if_true]
      rw [w64 (by omega) (by omega)]
      exact refRow_l0 l hl m (i + 1) (by omega)
    · have hg0 : good l[i] = false := by simpa using hg
      have hg' : goodB (l[i]).f0 (l[i]).f1 (l[i]).f2 = false := hg0
      simp only [hg', hg0, Bool.false_and, Bool.false_eq_true, if_false]
      exact Ev.now _
theorem refRow_ev (l : List S41) : Ev (fun k => shelfmarkref03_Row.f k l) (rowE l) := by
  unfold shelfmarkref03_Row.f rowE
  by_cases h : 4 < l.length
  · simp only [if_pos h, if_pos (show (l.length : Int) > 4 by omega)]
    exact Ev.now _
  · simp only [if_neg h, if_neg (show ¬ (l.length : Int) > 4 by omega)]
    have := refRow_l0 l (by omega) l.length 0 (by omega)
    rwa [List.drop_zero] at this
/-- Are the texts of a row so long at most, in all? -/
def lightB (most : Int) : List S41 → Int → Int → Bool
  | [], _, _ => true
  | v :: t, n, i => if (v.f2.size : Int) > most ∨ i > most then false else if n + (v.f2.size : Int) > most then false else lightB most t (n + (v.f2.size : Int)) (i + 1)
theorem light_l0 (l : List S41) (most : Int) (hm : 0 ≤ most ∧ most ≤ 1000000) : ∀ (m i : Nat) (n : Int), i + m = l.length → 0 ≤ n → n ≤ most → (i : Int) ≤ most + 1 → Ev (fun k => shelfmarkref03_Light.l0 k l most n (i : Int)) (lightB most (l.drop i) n (i : Int))
  | 0, i, n, h, h0, h1, h2 => by
    refine Ev.step (fun _ => shelfmarkref03_Light.l0.eq_2 ..) ?_
    rw [List.drop_eq_nil_of_le (by omega)]
    simp only [if_neg (show ¬ (i : Int) < (l.length : Int) by omega)]
    exact Ev.now _
  | m + 1, i, n, h, h0, h1, h2 => by
    have hi : i < l.length := by omega
    refine Ev.step (fun _ => shelfmarkref03_Light.l0.eq_2 ..) ?_
    rw [drop_get l i hi]
    simp only [if_pos (show (i : Int) < (l.length : Int) by omega), if_pos (show (0 : Int) ≤ (i : Int) by omega), rd_get l i hi, lightB]
    by_cases h3 : ((l[i]).f2.size : Int) > most
    · simp only [if_pos h3, h3, true_or, if_true]
      refine Ev.step (fun _ => shelfmarkref03_Light.j1.eq_2 ..) ?_
      simp only [if_true]
      exact Ev.now _
    · simp only [if_neg h3, h3, false_or]
      refine Ev.step (fun _ => shelfmarkref03_Light.j1.eq_2 ..) ?_
      by_cases h4 : (i : Int) > most
      · simp only [h4, decide_true, if_true]
        exact Ev.now _
      · simp only [h4, decide_false, Bool.false_eq_true, if_false, if_pos (show (i : Int) < (l.length : Int) by omega), if_pos (show (0 : Int) ≤ (i : Int) by omega), rd_get l i hi]
        rw [w64 (x := n + ((l[i]).f2.size : Int)) (by omega) (by omega), w64 (x := (i : Int) + 1) (by omega) (by omega)]
        by_cases h5 : n + ((l[i]).f2.size : Int) > most
        · simp only [h5, if_true]
          exact Ev.now _
        · simp only [h5, if_false]
          exact light_l0 l most hm m (i + 1) _ (by omega) (by omega) (by omega) (by omega)
theorem light_ev (l : List S41) (most : Int) (hm : 0 ≤ most ∧ most ≤ 1000000) : Ev (fun k => shelfmarkref03_Light.f k l most) (lightB most l 0 0) := by
  unfold shelfmarkref03_Light.f
  have := light_l0 l most hm l.length 0 0 (by omega) (by omega) (by omega) (by omega)
  rwa [List.drop_zero] at this
/-- The texts' bytes in all. -/
def bulk (l : List S41) : Nat := (l.map fun v => v.f2.size).sum
theorem light_bulk (most : Int) : ∀ (l : List S41) (n i : Int), n ≤ most → lightB most l n i = true → n + (bulk l : Int) ≤ most
  | [], n, i, h, _ => by simp [bulk]; omega
  | v :: t, n, i, h, hb => by
    unfold lightB at hb
    split at hb
    · cases hb
    · split at hb
      · cases hb
      · have := light_bulk most t _ _ (by omega) hb
        simp [bulk] at *
        omega
theorem same_l0 (l : List S41) (hl : l.length < 9223372036854775807) : ∀ (m i : Nat), i + m = l.length → Ev (fun k => shelfmarkref03_Same.l0 k l l (i : Int)) true
  | 0, i, h => by
    refine Ev.step (fun _ => shelfmarkref03_Same.l0.eq_2 ..) ?_
    simp only [if_neg (show ¬ (i : Int) < (l.length : Int) by omega)]
    exact Ev.now _
  | m + 1, i, h => by
    have hi : i < l.length := by omega
    refine Ev.step (fun _ => shelfmarkref03_Same.l0.eq_2 ..) ?_
    simp only [if_pos (show (i : Int) < (l.length : Int) by omega), if_pos (show (0 : Int) ≤ (i : Int) by omega), beq_self_eq_true, Bool.not_true, Bool.or_self, Bool.false_eq_true, if_false]
    rw [w64 (by omega) (by omega)]
    exact same_l0 l hl m (i + 1) (by omega)
theorem same_ev (l : List S41) (hl : l.length < 9223372036854775807) : Ev (fun k => shelfmarkref03_Same.f k l l) true := by
  unfold shelfmarkref03_Same.f
  simp only [if_true]
  exact same_l0 l hl l.length 0 (by omega)
end Go.Proofs.YtieifhjjjlmkbaaDoor.Tl
