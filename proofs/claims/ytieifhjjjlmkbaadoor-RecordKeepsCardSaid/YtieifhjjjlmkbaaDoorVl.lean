/- DERIVED. What the functions of the layer of records and of its reference come to, from some number of rounds on: good records, indexes, what is shown. Conditions: those that each lemma names. -/
import Derived.Test.YtieifhjjjlmkbaaDoorPAllx4
import Derived.Test.YtieifhjjjlmkbaaDoorPAllx5
import Derived.Test.YtieifhjjjlmkbaaDoorPAllx6
import Derived.Test.YtieifhjjjlmkbaaDoorPAllx7
import Derived.Test.YtieifhjjjlmkbaaDoorPAllx10
import Derived.Test.YtieifhjjjlmkbaaDoorPAllx11
import Derived.Test.YtieifhjjjlmkbaaDoorPAllx12
import Derived.Test.YtieifhjjjlmkbaaDoorPAllx13
import Derived.Test.YtieifhjjjlmkbaaDoorTl
namespace Go.Proofs.YtieifhjjjlmkbaaDoor.Vl
open Go.RowKit Go.Proofs.YtieifhjjjlmkbaaDoor.PAll Go.Proofs.YtieifhjjjlmkbaaDoorW.PrintWords Go.Proofs.YtieifhjjjlmkbaaDoorW.PrintLast Go.Proofs.YtieifhjjjlmkbaaDoor.Hl Go.Proofs.YtieifhjjjlmkbaaDoor.Tl
set_option linter.unusedSimpArgs false
set_option linter.unusedVariables false
theorem when_eq (b : Bool) (e : Int) : record_when.f b e = some (if b = true then e else 0) := by
  unfold record_when.f; split <;> rfl
/-- The first error there is. -/
def firstE : List Int → Int
  | [] => 0
  | x :: t => if x = 0 then firstE t else x
theorem first_l0 (l : List Int) (hl : l.length < 1000) : ∀ (m i : Nat), i + m = l.length → Ev (fun k => record_first.l0 k l (l.length : Int) (i : Int)) (firstE (l.drop i))
  | 0, i, h => by
    refine Ev.step (fun _ => record_first.l0.eq_2 ..) ?_
    rw [List.drop_eq_nil_of_le (by omega)]
    simp only [if_neg (show ¬ (i : Int) < (l.length : Int) by omega)]
    exact Ev.now _
  | m + 1, i, h => by
    have hi : i < l.length := by omega
    have hr : rd l (i : Int) = l[i] := by
      unfold rd
      rw [Int.toNat_natCast, List.getD_eq_getElem?_getD, List.getElem?_eq_getElem hi]; rfl
    refine Ev.step (fun _ => record_first.l0.eq_2 ..) ?_
    simp only [if_pos (show (i : Int) < (l.length : Int) by omega), if_pos (show (0 : Int) ≤ (i : Int) by omega), hr]
    rw [List.drop_eq_getElem_cons hi, firstE]
    by_cases hz : l[i] = 0
    · simp only [hz, if_true]
      rw [w64 (by omega) (by omega)]
      exact first_l0 l hl m (i + 1) (by omega)
    · simp only [if_neg hz]
      exact Ev.now _
theorem first_ev (l : List Int) (hl : l.length < 1000) : Ev (fun k => record_first.f k l) (firstE l) := by
  unfold record_first.f
  have := first_l0 l hl l.length 0 (by omega)
  rwa [List.drop_zero] at this
theorem bad_eq (k n : Int) (s : ByteArray) : record_bad_v11.f k n s = some (!goodB k n s) := by
  show record_bad.f k n s = _
  unfold record_bad.f
  rw [Good_eq]
  rfl
theorem bad_l0 (l : List S41) (hl : l.length < 4611686018427387904) : ∀ m i : Nat, i + m = l.length → ∃ r : Int, Ev (fun k => slices_IndexFunc_api_Record_api_Val_at_record_bad.l0 k l (l.length : Int) (i : Int)) r ∧ (decide (r ≥ 0) = !((l.drop i).all good))
  | 0, i, h => by
    refine ⟨-1, Ev.step (fun _ => slices_IndexFunc_api_Record_api_Val_at_record_bad.l0.eq_2 ..) ?_, ?_⟩
    · simp only [if_neg (show ¬ (i : Int) < (l.length : Int) by omega)]
      exact Ev.now _
    · rw [List.drop_eq_nil_of_le (by omega)]; rfl
  | m + 1, i, h => by
    have hi : i < l.length := by omega
    by_cases hg : good l[i] = true
    · obtain ⟨r, hr, hd⟩ := bad_l0 l hl m (i + 1) (by omega)
      refine ⟨r, Ev.step (fun _ => slices_IndexFunc_api_Record_api_Val_at_record_bad.l0.eq_2 ..) ?_, ?_⟩
      · have hg' : goodB (l[i]).f0 (l[i]).f1 (l[i]).f2 = true := hg
        simp only [if_pos (show (i : Int) < (l.length : Int) by omega), if_pos (show (0 : Int) ≤ (i : Int) by omega), bad_eq, Option.bind_some, rd_get l i hi, hg', Bool.not_true, Bool.false_eq_true, if_false]
        rw [w64 (by omega) (by omega)]
        exact hr
      · rw [hd, drop_get l i hi, List.all_cons, hg, Bool.true_and]
    · have hg0 : good l[i] = false := by simpa using hg
      refine ⟨i, Ev.step (fun _ => slices_IndexFunc_api_Record_api_Val_at_record_bad.l0.eq_2 ..) ?_, ?_⟩
      · have hg' : goodB (l[i]).f0 (l[i]).f1 (l[i]).f2 = false := hg0
        simp only [if_pos (show (i : Int) < (l.length : Int) by omega), if_pos (show (0 : Int) ≤ (i : Int) by omega), bad_eq, Option.bind_some, rd_get l i hi, hg', Bool.not_false, if_true]
        exact Ev.now _
      · rw [drop_get l i hi, List.all_cons, hg0, Bool.false_and]
        simp
theorem bad_ev (l : List S41) (hl : l.length < 4611686018427387904) : Ev (fun k => slices_ContainsFunc_api_Record_api_Val_at_record_bad.f k l) (!(l.all good)) := by
  obtain ⟨r, hr, hd⟩ := bad_l0 l hl l.length 0 (by omega)
  rw [List.drop_zero] at hd
  unfold slices_ContainsFunc_api_Record_api_Val_at_record_bad.f slices_IndexFunc_api_Record_api_Val_at_record_bad.f
  refine Ev.bind hr ?_
  rw [hd]
  exact Ev.now _
/-- What is wrong with a record. -/
def checkE (l : List S41) : Int := if l.length = 0 then 1 else rowE l
theorem check_ev (l : List S41) (hl : l.length < 4611686018427387904) : Ev (fun k => record_Check.f k l) (checkE l) := by
  unfold record_Check.f
  simp only [when_eq, Option.bind_some]
  refine Ev.bind (bad_ev l hl) ?_
  refine Ev.bind (first_ev _ (by simp)) ?_
  have : firstE [if ((l.length : Int) == 0) = true then 1 else 0, if decide ((l.length : Int) > 4) = true then 4 else 0, if (!(l.all good)) = true then 1 else 0] = checkE l := by
    unfold checkE rowE
    by_cases h0 : l.length = 0
    · simp [h0, firstE]
    · by_cases h4 : 4 < l.length
      · have h0' : ((l.length : Int) == 0) = false := by rw [beq_eq_false_iff_ne]; omega
        have h4' : decide ((l.length : Int) > 4) = true := decide_eq_true (by omega)
        rw [h0', h4', if_neg h0, if_pos h4]; simp [firstE]
      · have h0' : ((l.length : Int) == 0) = false := by rw [beq_eq_false_iff_ne]; omega
        have h4' : decide ((l.length : Int) > 4) = false := decide_eq_false (by omega)
        rw [h0', h4', if_neg h0, if_neg h4]
        cases l.all good <;> simp [firstE]
  rw [this]
  exact Ev.now _
theorem refCheck_ev (l : List S41) : Ev (fun k => shelfmarkref04_Check.f k l) (checkE l) := by
  unfold shelfmarkref04_Check.f checkE
  by_cases h : l.length = 0
  · simp only [if_pos h, if_pos (show (l.length : Int) = 0 by omega)]
    exact Ev.now _
  · simp only [if_neg h, if_neg (show ¬ (l.length : Int) = 0 by omega)]
    exact Ev.bind (refRow_ev l) (Ev.now _)
/-- What is wrong with an index. -/
def indexE (a : Int) (l : List Int) : Int := if a < 1 ∨ a > 6 ∨ l.length = 0 then 1 else if 2 < l.length then 4 else idxL l [false, false, false, false]
theorem number_eq (a : Int) : record_number.f a = some (decide (1 ≤ a ∧ a ≤ 6)) := by
  unfold record_number.f
  by_cases h : a ≥ 1
  · have : (1 ≤ a ∧ a ≤ 6) = (a ≤ 6) := by rw [eq_iff_iff]; omega
    simp only [if_pos h, this]
  · rw [if_neg h, decide_eq_false (by omega)]
theorem index_ev (a : Int) (l : List Int) : Ev (fun k => record_CheckIndex.f k a l) (indexE a l) := by
  unfold record_CheckIndex.f
  simp only [number_eq, when_eq, Option.bind_some]
  by_cases h : 1 ≤ a ∧ a ≤ 6
  · simp only [decide_eq_true h, if_true]
    refine Ev.bind (first_ev _ (by simp)) ?_
    unfold indexE
    by_cases h0 : l.length = 0
    · have h0' : ((l.length : Int) == 0) = true := by rw [beq_iff_eq]; omega
      rw [h0', if_pos (show a < 1 ∨ a > 6 ∨ l.length = 0 from .inr (.inr h0))]
      simp only [if_true, firstE, if_neg (show ¬ (1 : Int) = 0 by decide)]
      exact Ev.now _
    · have h0' : ((l.length : Int) == 0) = false := by rw [beq_eq_false_iff_ne]; omega
      rw [h0', if_neg (show ¬ (a < 1 ∨ a > 6 ∨ l.length = 0) by omega)]
      by_cases h2 : 2 < l.length
      · rw [decide_eq_true (show (l.length : Int) > 2 by omega), if_pos h2]
        simp only [firstE, Bool.false_eq_true, if_false, if_true, if_neg (show ¬ (4 : Int) = 0 by decide)]
        exact Ev.now _
      · rw [decide_eq_false (show ¬ (l.length : Int) > 2 by omega), if_neg h2]
        simp only [firstE, Bool.false_eq_true, if_false, if_true, if_pos (show l.length ≤ 2 by omega)]
        exact Ev.now _
  · have hd : decide (1 ≤ a ∧ a ≤ 6) = false := decide_eq_false h
    simp only [hd, Bool.false_eq_true, if_false, if_true]
    refine Ev.bind (first_ev _ (by simp)) ?_
    unfold indexE
    rw [if_pos (show a < 1 ∨ a > 6 ∨ l.length = 0 by omega)]
    simp only [firstE, if_neg (show ¬ (1 : Int) = 0 by decide)]
    exact Ev.now _
theorem rd0 (x : Int) (t : List Int) : rd (x :: t) 0 = x := rfl
theorem rd1 (x y : Int) (t : List Int) : rd (x :: y :: t) 1 = y := rfl
theorem refIndex_ev (a : Int) (l : List Int) : Ev (fun k => shelfmarkref04_CheckIndex.f k a l) (indexE a l) := by
  have bad : Ev (fun k => shelfmarkref04_CheckIndex.j0 k true a l) 1 := by
    refine Ev.step (fun _ => shelfmarkref04_CheckIndex.j0.eq_2 ..) ?_
    simp only [if_true]
    exact Ev.now _
  unfold shelfmarkref04_CheckIndex.f indexE
  by_cases h1 : a < 1
  · rw [if_pos (.inl h1)]; simp only [if_pos h1]; exact bad
  · simp only [if_neg h1]
    by_cases h2 : a > 6
    · rw [if_pos (.inr (.inl h2))]; simp only [if_pos h2]; exact bad
    · simp only [if_neg h2]
      by_cases h0 : l.length = 0
      · rw [if_pos (show a < 1 ∨ a > 6 ∨ l.length = 0 from .inr (.inr h0)), show ((l.length : Int) == 0) = true by rw [beq_iff_eq]; omega]; exact bad
      · rw [if_neg (show ¬ (a < 1 ∨ a > 6 ∨ l.length = 0) by omega), show ((l.length : Int) == 0) = false by rw [beq_eq_false_iff_ne]; omega]
        refine Ev.step (fun _ => shelfmarkref04_CheckIndex.j0.eq_2 ..) ?_
        simp only [Bool.false_eq_true, if_false]
        by_cases h3 : 2 < l.length
        · simp only [if_pos h3, if_pos (show (l.length : Int) > 2 by omega)]
          exact Ev.now _
        · simp only [if_neg h3, if_neg (show ¬ (l.length : Int) > 2 by omega)]
          match l, h0, h3 with
          | [x], _, _ =>
            refine Ev.step (fun _ => shelfmarkref04_CheckIndex.l0.eq_2 ..) ?_
            simp only [List.length_cons, List.length_nil, idxL, if_pos (show (0 : Int) < ((0 + 1 : Nat) : Int) by decide), if_pos (show (0 : Int) ≤ 0 by decide), rd0]
            by_cases x1 : x < 0
            · simp only [if_pos x1]; exact Ev.now _
            · simp only [if_neg x1]
              by_cases x2 : 4 ≤ x
              · simp only [if_pos x2, if_pos (show x > 3 by omega)]; exact Ev.now _
              · simp only [if_neg x2, if_neg (show ¬ x > 3 by omega), if_neg (show ¬ (0 : Int) = 1 by decide)]
                have hx : x = 0 ∨ x = 1 ∨ x = 2 ∨ x = 3 := by omega
                have e : (if ([false, false, false, false] : List Bool).getD x.toNat false = true then (1 : Int) else 0) = 0 := by
                  rcases hx with rfl | rfl | rfl | rfl <;> rfl
                rw [e, w64 (by omega) (by omega)]
                refine Ev.step (fun _ => shelfmarkref04_CheckIndex.l0.eq_2 ..) ?_
                simp only [List.length_cons, List.length_nil, if_neg (show ¬ (0 : Int) + 1 < ((0 + 1 : Nat) : Int) by decide)]
                exact Ev.now _
          | [x, y], _, _ =>
            refine Ev.step (fun _ => shelfmarkref04_CheckIndex.l0.eq_2 ..) ?_
            simp only [List.length_cons, List.length_nil, idxL, if_pos (show (0 : Int) < ((0 + 1 + 1 : Nat) : Int) by decide), if_pos (show (0 : Int) ≤ 0 by decide), rd0]
            by_cases x1 : x < 0
            · simp only [if_pos x1]; exact Ev.now _
            · simp only [if_neg x1]
              by_cases x2 : 4 ≤ x
              · simp only [if_pos x2, if_pos (show x > 3 by omega)]; exact Ev.now _
              · simp only [if_neg x2, if_neg (show ¬ x > 3 by omega), if_neg (show ¬ (0 : Int) = 1 by decide)]
                have hx : x = 0 ∨ x = 1 ∨ x = 2 ∨ x = 3 := by omega
                rw [w64 (by omega) (by omega)]
                have e0 : ¬ ([false, false, false, false] : List Bool).getD x.toNat false = true := by
                  rcases hx with rfl | rfl | rfl | rfl <;> decide
                rw [if_neg e0]
                refine Ev.step (fun _ => shelfmarkref04_CheckIndex.l0.eq_2 ..) ?_
                simp only [List.length_cons, List.length_nil, if_pos (show (0 : Int) + 1 < ((0 + 1 + 1 : Nat) : Int) by decide), show (0 : Int) + 1 = 1 from rfl, if_pos (show (0 : Int) ≤ 1 by decide), rd1, rd0]
                by_cases y1 : y < 0
                · simp only [if_pos y1]; exact Ev.now _
                · simp only [if_neg y1]
                  by_cases y2 : 4 ≤ y
                  · simp only [if_pos y2, if_pos (show y > 3 by omega)]; exact Ev.now _
                  · simp only [if_neg y2, if_neg (show ¬ y > 3 by omega), if_true]
                    simp only [if_pos (show (0 : Int) < ((0 + 1 + 1 : Nat) : Int) by decide), if_pos (show (1 : Int) < ((0 + 1 + 1 : Nat) : Int) by decide)]
                    have hy : y = 0 ∨ y = 1 ∨ y = 2 ∨ y = 3 := by omega
                    have e : (((([false, false, false, false] : List Bool).set x.toNat true).getD y.toNat false) = true) = (x = y) := by
                      rcases hx with rfl | rfl | rfl | rfl <;> rcases hy with rfl | rfl | rfl | rfl <;> decide
                    simp only [e]
                    by_cases hxy : x = y
                    · simp only [if_pos hxy]; exact Ev.now _
                    · simp only [if_neg hxy]
                      rw [w64 (by omega) (by omega)]
                      refine Ev.step (fun _ => shelfmarkref04_CheckIndex.l0.eq_2 ..) ?_
                      simp only [List.length_cons, List.length_nil, if_neg (show ¬ (1 : Int) + 1 < ((0 + 1 + 1 : Nat) : Int) by decide)]
                      exact Ev.now _
          | _ :: _ :: _ :: _, _, h => exact absurd (by simp) h
theorem idx_range : ∀ (l : List Int) (s : List Bool), idxL l s = 0 → ∀ n ∈ l, 0 ≤ n ∧ n < 4
  | [], _, _, n, hn => by cases hn
  | x :: t, s, h, n, hn => by
    unfold idxL at h
    by_cases x1 : x < 0
    · rw [if_pos x1] at h; cases h
    · rw [if_neg x1] at h
      by_cases x2 : 4 ≤ x
      · rw [if_pos x2] at h; cases h
      · rw [if_neg x2] at h
        split at h
        · cases h
        · rcases List.mem_cons.1 hn with rfl | hn
          · omega
          · exact idx_range t _ h n hn
theorem index_ok {a : Int} {l : List Int} (h : indexE a l = 0) : 1 ≤ l.length ∧ l.length ≤ 2 ∧ ∀ n ∈ l, 0 ≤ n ∧ n < 4 := by
  unfold indexE at h
  split at h
  · cases h
  · split at h
    · cases h
    · exact ⟨by omega, by omega, idx_range _ _ h⟩
/-- What a record shows an index that may be. -/
def showF (r : List S41) : List Int → List S41 → List S41 × Bool
  | [], l => (l, true)
  | n :: t, l => if n ≥ (r.length : Int) then ([], false) else if (rd_T41 r n).f0 = 0 then ([], false) else showF r t (l ++ [rd_T41 r n])
def showR (a : Int) (x : List Int) (r : List S41) : List S41 × Bool := if indexE a x = 0 then (if checkE r = 0 then showF r x [] else ([], false)) else ([], false)
theorem show_l0 (r : List S41) (x : List Int) (hx : x.length ≤ 2) (hn : ∀ n ∈ x, 0 ≤ n ∧ n < 4) : ∀ (m i : Nat) (l : List S41), i + m = x.length → l.length ≤ i → Ev (fun k => record_Shows.l0 k r l x (x.length : Int) (i : Int)) (showF r (x.drop i) l)
  | 0, i, l, h, hl => by
    refine Ev.step (fun _ => record_Shows.l0.eq_2 ..) ?_
    rw [List.drop_eq_nil_of_le (by omega)]
    simp only [if_neg (show ¬ (i : Int) < (x.length : Int) by omega)]
    exact Ev.now _
  | m + 1, i, l, h, hl => by
    have hi : i < x.length := by omega
    have hr : rd x (i : Int) = x[i] := by
      unfold rd
      rw [Int.toNat_natCast, List.getD_eq_getElem?_getD, List.getElem?_eq_getElem hi]; rfl
    have hb := hn x[i] (List.getElem_mem hi)
    refine Ev.step (fun _ => record_Shows.l0.eq_2 ..) ?_
    simp only [if_pos (show (i : Int) < (x.length : Int) by omega), if_pos (show (0 : Int) ≤ (i : Int) by omega), hr]
    rw [List.drop_eq_getElem_cons hi, showF]
    by_cases h1 : x[i] ≥ (r.length : Int)
    · simp only [if_pos h1]; exact Ev.now _
    · simp only [if_neg h1, if_pos hb.1, if_pos (show x[i] < (r.length : Int) by omega)]
      by_cases h2 : (rd_T41 r x[i]).f0 = 0
      · simp only [if_pos h2]; exact Ev.now _
      · simp only [if_neg h2, if_pos (show l.length < 4398046511104 by omega)]
        rw [w64 (by omega) (by omega)]
        exact show_l0 r x hx hn m (i + 1) _ (by omega) (by rw [List.length_append]; simp; omega)
theorem refShow_l0 (a : Int) (r : List S41) (x : List Int) (hx : x.length ≤ 2) (hn : ∀ n ∈ x, 0 ≤ n ∧ n < 4) : ∀ (m i : Nat) (l : List S41), i + m = x.length → l.length ≤ i → Ev (fun k => shelfmarkref04_Shows.l0 k r l (i : Int) a x) (showF r (x.drop i) l)
  | 0, i, l, h, hl => by
    refine Ev.step (fun _ => shelfmarkref04_Shows.l0.eq_2 ..) ?_
    rw [List.drop_eq_nil_of_le (by omega)]
    simp only [if_neg (show ¬ (i : Int) < (x.length : Int) by omega)]
    exact Ev.now _
  | m + 1, i, l, h, hl => by
    have hi : i < x.length := by omega
    have hr : rd x (i : Int) = x[i] := by
      unfold rd
      rw [Int.toNat_natCast, List.getD_eq_getElem?_getD, List.getElem?_eq_getElem hi]; rfl
    have hb := hn x[i] (List.getElem_mem hi)
    refine Ev.step (fun _ => shelfmarkref04_Shows.l0.eq_2 ..) ?_
    simp only [if_pos (show (i : Int) < (x.length : Int) by omega), if_pos (show (0 : Int) ≤ (i : Int) by omega), hr]
    rw [List.drop_eq_getElem_cons hi, showF]
    by_cases h1 : x[i] ≥ (r.length : Int)
    · simp only [if_pos h1]; exact Ev.now _
    · simp only [if_neg h1, if_pos hb.1, if_pos (show x[i] < (r.length : Int) by omega)]
      by_cases h2 : (rd_T41 r x[i]).f0 = 0
      · simp only [if_pos h2]; exact Ev.now _
      · simp only [if_neg h2, if_pos (show l.length < 4398046511104 by omega)]
        rw [w64 (by omega) (by omega)]
        exact refShow_l0 a r x hx hn m (i + 1) _ (by omega) (by rw [List.length_append]; simp; omega)
theorem show_ev (a : Int) (x : List Int) (r : List S41) (hr : r.length < 4611686018427387904) : Ev (fun k => record_Shows.f k a x r) (showR a x r) := by
  unfold record_Shows.f showR
  refine Ev.bind (index_ev a x) ?_
  refine Ev.bind (check_ev r hr) ?_
  refine Ev.bind (first_ev _ (by simp)) ?_
  by_cases h : indexE a x = 0
  · by_cases h2 : checkE r = 0
    · simp only [h, h2, firstE, if_true]
      obtain ⟨_, k2, k3⟩ := index_ok h
      have := show_l0 r x k2 k3 x.length 0 [] (by omega) (by simp)
      rw [List.drop_zero] at this
      exact this
    · simp only [h, firstE, if_true, if_neg h2]
      exact Ev.now _
  · simp only [firstE, if_neg h]
    exact Ev.now _
theorem refShow_ev (a : Int) (x : List Int) (r : List S41) : Ev (fun k => shelfmarkref04_Shows.f k a x r) (showR a x r) := by
  have bad : Ev (fun k => shelfmarkref04_Shows.j0 k r true a x) (([] : List S41), false) := by
    refine Ev.step (fun _ => shelfmarkref04_Shows.j0.eq_2 ..) ?_
    simp only [if_true]
    exact Ev.now _
  unfold shelfmarkref04_Shows.f showR
  refine Ev.bind (refIndex_ev a x) ?_
  by_cases h : indexE a x = 0
  · simp only [if_pos h]
    refine Ev.bind (refCheck_ev r) ?_
    by_cases h2 : checkE r = 0
    · simp only [h2, bne_self_eq_false, if_true]
      refine Ev.step (fun _ => shelfmarkref04_Shows.j0.eq_2 ..) ?_
      simp only [Bool.false_eq_true, if_false]
      obtain ⟨_, k2, k3⟩ := index_ok h
      have := refShow_l0 a r x k2 k3 x.length 0 [] (by omega) (by simp)
      rw [List.drop_zero] at this
      exact this
    · have e : (checkE r != 0) = true := by simpa using h2
      simp only [if_neg h2, e]
      exact bad
  · simp only [if_neg h]
    exact bad
theorem showF_len (r : List S41) : ∀ (x : List Int) (l : List S41), (showF r x l).1.length ≤ l.length + x.length ∧ ((showF r x l).2 = true → (showF r x l).1.length = l.length + x.length) ∧ ((showF r x l).2 = false → (showF r x l).1 = [])
  | [], l => by simp [showF]
  | n :: t, l => by
    unfold showF
    split
    · simp
    · split
      · simp
      · obtain ⟨h1, h2, h3⟩ := showF_len r t (l ++ [rd_T41 r n])
        simp only [List.length_append, List.length_cons, List.length_nil] at *
        exact ⟨by omega, fun h => by have := h2 h; omega, h3⟩
theorem showR_len (a : Int) (x : List Int) (r : List S41) : (showR a x r).1.length ≤ 2 ∧ (showR a x r).2 = decide (((showR a x r).1.length : Int) > 0) := by
  unfold showR
  by_cases h : indexE a x = 0
  · rw [if_pos h]
    by_cases h2 : checkE r = 0
    · rw [if_pos h2]
      obtain ⟨k1, k2, _⟩ := index_ok h
      obtain ⟨s1, s2, s3⟩ := showF_len r x []
      simp only [List.length_nil, Nat.zero_add] at s1 s2
      refine ⟨by omega, ?_⟩
      cases hs : (showF r x []).2 with
      | true => have := s2 hs; exact (decide_eq_true (by omega)).symm
      | false => rw [s3 hs]; rfl
    · rw [if_neg h2]; simp
  · rw [if_neg h]; simp
theorem light_len (most : Int) : ∀ (l : List S41) (n i : Int), lightB most l n i = true → l ≠ [] → (l.length : Int) + i ≤ most + 1
  | [], n, i, _, h => absurd rfl h
  | v :: t, n, i, h, _ => by
    unfold lightB at h
    split at h
    · cases h
    · rename_i hn
      split at h
      · cases h
      · by_cases ht : t = []
        · subst ht; simp; omega
        · have := light_len most t _ _ h ht
          rw [List.length_cons]; omega
theorem light_length {most : Int} {l : List S41} (hm : 0 ≤ most) (h : lightB most l 0 0 = true) : (l.length : Int) ≤ most + 1 := by
  by_cases hl : l = []
  · subst hl; simp; omega
  · have := light_len most l 0 0 h hl; omega
theorem light2_ev (a b : List S41) : Ev (fun k => shelfmarklaw04_light.f k a b) (lightB 1000 a 0 0 && lightB 1000 b 0 0) := by
  unfold shelfmarklaw04_light.f
  refine Ev.bind (light_ev a 1000 (by omega)) ?_
  cases h : lightB 1000 a 0 0 with
  | true =>
    simp only [if_true, Bool.true_and]
    exact Ev.bind (light_ev b 1000 (by omega)) (Ev.now _)
  | false =>
    simp only [Bool.false_eq_true, if_false, Bool.false_and]
    exact Ev.now _
end Go.Proofs.YtieifhjjjlmkbaaDoor.Vl
