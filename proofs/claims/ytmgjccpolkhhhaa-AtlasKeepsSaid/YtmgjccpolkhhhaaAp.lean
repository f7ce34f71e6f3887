/- DERIVED. Maps of parts: when they are right, where a text is in them; what Check, seek, Find, Of and the reference's come to, from some number of rounds on. Conditions: those that each lemma names. -/
import Derived.Test.YtmgjccpolkhhhaaPAllx4
import Derived.Test.YtmgjccpolkhhhaaPAllx3
import Derived.Test.YtmgjccpolkhhhaaPAllx5
import Derived.Test.YtmgjccpolkhhhaaPAllx5
import Derived.Test.YtmgjccpolkhhhaaPAllx11
import Derived.Test.YtmgjccpolkhhhaaPAllx14
import Derived.Test.YtmgjccpolkhhhaaPAllx10
namespace Go.Proofs.Ytmgjccpolkhhhaa.Ap
open Go.RowKit Go.Proofs.Ytmgjccpolkhhhaa.PAll Go.Proofs.YtmgjccpolkhhhaaW.PrintWords Go.Proofs.YtmgjccpolkhhhaaW.PrintLast
set_option linter.unusedSimpArgs false
set_option linter.unusedVariables false
theorem bl_eq : ∀ (x y : List UInt8), Op.bytesLess x y = decide (x < y)
  | [], [] => by simp [Op.bytesLess]
  | _ :: _, [] => by simp [Op.bytesLess]
  | [], _ :: _ => by simp [Op.bytesLess]
  | a :: x, b :: y => by
    rw [Op.bytesLess, bl_eq x y]
    simp only [List.cons_lt_cons_iff]
    by_cases h1 : a < b <;> by_cases h2 : a = b <;> by_cases h3 : x < y <;> simp [h1, h2, h3]
theorem w64 {x : Int} (h0 : -9223372036854775808 ≤ x) (h1 : x < 9223372036854775808) : wrap64 x = x := Go.IntWalk.wrap64_in _ (by omega)
theorem rd_get (l : List S46) (i : Nat) (h : i < l.length) : rd_T46 l (i : Int) = l[i] := by
  unfold rd_T46
  rw [Int.toNat_natCast, List.getD_eq_getElem?_getD, List.getElem?_eq_getElem h]; rfl
theorem drop_get (l : List S46) (i : Nat) (h : i < l.length) : l.drop i = l[i] :: l.drop (i + 1) := List.drop_eq_getElem_cons h
/-- Where a part begins. -/
def L (p : S46) : List UInt8 := p.f0.toList
def partOk (p : S46) : Bool := decide ((p.f0.size : Int) ≤ 100) && (decide (p.f1 ≥ 1) && decide (p.f1 ≤ 4))
def chainB : Option (List UInt8) → List S46 → Bool
  | _, [] => true
  | none, p :: t => partOk p && chainB (some (L p)) t
  | some q, p :: t => decide (q < L p) && (partOk p && chainB (some (L p)) t)
def okB (l : List S46) : Bool := decide (l ≠ []) && decide (l.length ≤ 8) && decide (L (rd_T46 l 0) = []) && chainB none l
def chk (ep : Int) (l : List S46) : Int := if ep < 1 then 1 else if ep > 1099511627776 then 1 else if okB l = true then 0 else 14
/-- What stands ahead of place i. -/
def prev (l : List S46) : Nat → Option (List UInt8)
  | 0 => none
  | i + 1 => some (L (rd_T46 l (i : Int)))
theorem node_eq (n : Int) : atlas_node.f n = some (decide (n ≥ 1) && decide (n ≤ 4)) := by
  unfold atlas_node.f
  by_cases h : n ≥ 1
  · rw [if_pos h]; simp [h]
  · rw [if_neg h]; simp [h]
theorem check_l0 (l : List S46) (ep : Int) (hl : l.length < 9223372036854775808) : ∀ (m i : Nat), i + m = l.length → Ev (fun k => atlas_Check.l0 k l (l.length : Int) (i : Int) ep l) (if chainB (prev l i) (l.drop i) = true then 0 else 14)
  | 0, i, h => by
    refine Ev.step (fun _ => atlas_Check.l0.eq_2 ..) ?_
    rw [List.drop_eq_nil_of_le (by omega)]
    simp only [if_neg (show ¬ (i : Int) < (l.length : Int) by omega)]
    cases prev l i <;> exact Ev.now _
  | m + 1, i, h => by
    have hi : i < l.length := by omega
    refine Ev.step (fun _ => atlas_Check.l0.eq_2 ..) ?_
    simp only [if_pos (show (i : Int) < (l.length : Int) by omega), if_pos (show (0 : Int) ≤ (i : Int) by omega), node_eq, Option.bind_some, rd_get l i hi]
    have ih := check_l0 l ep hl m (i + 1) (by omega)
    rw [drop_get l i hi]
    have hp : prev l (i + 1) = some (L l[i]) := by show some _ = _; rw [rd_get l i hi]
    rw [hp] at ih
    have hw : wrap64 ((i : Int) + 1) = ((i + 1 : Nat) : Int) := by rw [w64 (by omega) (by omega)]; omega
    have hrest : Ev (fun n => if (((l[i]).f0).size : Int) > 100 then some 14 else if (decide (l[i].f1 ≥ 1) && decide (l[i].f1 ≤ 4)) = true then atlas_Check.l0 n l (↑l.length) (wrap64 (↑i + 1)) ep l else some 14) (if (partOk l[i] && chainB (some (L l[i])) (l.drop (i + 1))) = true then 0 else 14) := by
      unfold partOk
      by_cases h1 : ((l[i].f0.size : Nat) : Int) > 100
      · simp only [if_pos h1, decide_eq_false (show ¬ ((l[i].f0.size : Nat) : Int) ≤ 100 by omega), Bool.false_and, Bool.false_eq_true, if_false]; exact Ev.now _
      · simp only [if_neg h1, decide_eq_true (show ((l[i].f0.size : Nat) : Int) ≤ 100 by omega), Bool.true_and]
        by_cases h2 : (decide (l[i].f1 ≥ 1) && decide (l[i].f1 ≤ 4)) = true
        · simp only [h2, if_true, Bool.true_and, hw]; exact ih
        · simp only [Bool.not_eq_true] at h2
          simp only [h2, Bool.false_and, Bool.false_eq_true, if_false]; exact Ev.now _
    rcases i with _ | j
    · simp only [if_neg (show ¬ (((0 : Nat) : Int) > 0) by omega)]
      exact hrest
    · have hj : j < l.length := by omega
      have hw2 : wrap64 (((j + 1 : Nat) : Int) - 1) = (j : Int) := by rw [w64 (by omega) (by omega)]; omega
      simp only [if_pos (show (((j + 1 : Nat) : Int) > 0) by omega), hw2, if_pos (show (0 : Int) ≤ (j : Int) by omega), if_pos (show (j : Int) < (l.length : Int) by omega), bl_eq, rd_get l j hj]
      show Ev _ (if (decide (L (rd_T46 l (j : Int)) < L l[j + 1]) && (partOk l[j + 1] && chainB (some (L l[j + 1])) (l.drop (j + 1 + 1)))) = true then 0 else 14)
      rw [rd_get l j hj]
      by_cases h3 : L l[j] < L l[j + 1]
      · have h3' : decide (l[j].f0.toList < l[j + 1].f0.toList) = true := decide_eq_true h3
        rw [decide_eq_true h3, Bool.true_and]
        simp only [h3', if_true]
        exact hrest
      · have h3' : decide (l[j].f0.toList < l[j + 1].f0.toList) = false := decide_eq_false h3
        rw [decide_eq_false h3, Bool.false_and]
        simp only [h3', Bool.false_eq_true, if_false]
        exact Ev.now _
theorem Check_ev (ep : Int) (l : List S46) (hl : l.length < 9223372036854775808) : Ev (fun k => atlas_Check.f k ep l) (chk ep l) := by
  unfold atlas_Check.f chk
  by_cases h0 : ep < 1
  · simp only [if_pos h0]
    exact Ev.step (fun _ => atlas_Check.j0.eq_2 ..) (by simp only [if_true]; exact Ev.now _)
  · simp only [if_neg h0]
    refine Ev.step (fun _ => atlas_Check.j0.eq_2 ..) ?_
    by_cases h1 : ep > 1099511627776
    · simp only [decide_eq_true h1, if_true, if_pos h1]; exact Ev.now _
    · simp only [decide_eq_false h1, Bool.false_eq_true, if_false, if_neg h1]
      unfold okB
      by_cases h2 : (l.length : Int) = 0
      · have : l = [] := List.eq_nil_of_length_eq_zero (by omega)
        simp only [if_pos h2]
        subst this
        simp only [ne_eq, not_true_eq_false, decide_false, Bool.false_and, Bool.false_eq_true, if_false]
        exact Ev.step (fun _ => atlas_Check.j1.eq_2 ..) (by simp only [if_true]; exact Ev.now _)
      · have hne : l ≠ [] := by rintro rfl; simp at h2
        simp only [if_neg h2]
        by_cases h3 : (l.length : Int) > 8
        · simp only [if_pos h3, decide_eq_false (show ¬ l.length ≤ 8 by omega), Bool.false_and, Bool.and_false, Bool.false_eq_true, if_false]
          exact Ev.step (fun _ => atlas_Check.j1.eq_2 ..) (by simp only [if_true]; exact Ev.now _)
        · simp only [if_neg h3, if_pos (show 0 < (l.length : Int) by omega), decide_eq_true (show l.length ≤ 8 by omega), decide_eq_true hne, Bool.true_and]
          refine Ev.step (fun _ => atlas_Check.j1.eq_2 ..) ?_
          by_cases h4 : L (rd_T46 l 0) = []
          · have h4' : ((rd_T46 l 0).f0.toList != ([] : List UInt8)) = false := by rw [show (rd_T46 l 0).f0.toList = [] from h4]; rfl
            simp only [h4', Bool.false_eq_true, if_false, decide_eq_true h4, Bool.true_and]
            have := check_l0 l ep hl l.length 0 (by omega)
            exact this
          · have h4' : ((rd_T46 l 0).f0.toList != ([] : List UInt8)) = true := bne_iff_ne.2 h4
            simp only [h4', if_true, decide_eq_false h4, Bool.false_and, Bool.false_eq_true, if_false]
            exact Ev.now _
theorem rcheck_l0 (l : List S46) (ep : Int) (hl : l.length < 9223372036854775808) : ∀ (m i : Nat), i + m = l.length → Ev (fun k => shelfmarkref12_Check.l0 k (i : Int) ep l) (if chainB (prev l i) (l.drop i) = true then 0 else 14)
  | 0, i, h => by
    refine Ev.step (fun _ => shelfmarkref12_Check.l0.eq_2 ..) ?_
    rw [List.drop_eq_nil_of_le (by omega)]
    simp only [if_neg (show ¬ (i : Int) < (l.length : Int) by omega)]
    cases prev l i <;> exact Ev.now _
  | m + 1, i, h => by
    have hi : i < l.length := by omega
    refine Ev.step (fun _ => shelfmarkref12_Check.l0.eq_2 ..) ?_
    simp only [if_pos (show (i : Int) < (l.length : Int) by omega), if_pos (show (0 : Int) ≤ (i : Int) by omega), rd_get l i hi]
    have ih := rcheck_l0 l ep hl m (i + 1) (by omega)
    rw [drop_get l i hi]
    have hp : prev l (i + 1) = some (L l[i]) := by show some _ = _; rw [rd_get l i hi]
    rw [hp] at ih
    have hw : wrap64 ((i : Int) + 1) = ((i + 1 : Nat) : Int) := by rw [w64 (by omega) (by omega)]; omega
    by_cases h1 : l[i].f1 < 1
    · simp only [if_pos h1]
      have : partOk l[i] = false := by simp only [partOk, decide_eq_false (show ¬ l[i].f1 ≥ 1 by omega), Bool.false_and, Bool.and_false]
      cases prev l i <;> simp only [chainB, this, Bool.false_and, Bool.and_false, Bool.false_eq_true, if_false] <;> exact Ev.now _
    · simp only [if_neg h1]
      by_cases h2 : l[i].f1 > 4
      · simp only [if_pos h2]
        have : partOk l[i] = false := by simp only [partOk, decide_eq_false (show ¬ l[i].f1 ≤ 4 by omega), Bool.false_and, Bool.and_false]
        cases prev l i <;> simp only [chainB, this, Bool.false_and, Bool.and_false, Bool.false_eq_true, if_false] <;> exact Ev.now _
      · simp only [if_neg h2]
        by_cases h3 : ((l[i].f0.size : Nat) : Int) > 100
        · simp only [if_pos h3]
          have : partOk l[i] = false := by simp only [partOk, decide_eq_false (show ¬ ((l[i].f0.size : Nat) : Int) ≤ 100 by omega), Bool.false_and]
          cases prev l i <;> simp only [chainB, this, Bool.false_and, Bool.and_false, Bool.false_eq_true, if_false] <;> exact Ev.now _
        · simp only [if_neg h3]
          have hok : partOk l[i] = true := by simp only [partOk, decide_eq_true (show ((l[i].f0.size : Nat) : Int) ≤ 100 by omega), decide_eq_true (show l[i].f1 ≥ 1 by omega), decide_eq_true (show l[i].f1 ≤ 4 by omega), Bool.and_self]
          rcases i with _ | j
          · simp only [if_neg (show ¬ (((0 : Nat) : Int) > 0) by omega), hw, prev, chainB, hok, Bool.true_and]
            exact ih
          · have hj : j < l.length := by omega
            have hw2 : wrap64 (((j + 1 : Nat) : Int) - 1) = (j : Int) := by rw [w64 (by omega) (by omega)]; omega
            simp only [if_pos (show (((j + 1 : Nat) : Int) > 0) by omega), hw2, if_pos (show (0 : Int) ≤ (j : Int) by omega), if_pos (show (j : Int) < (l.length : Int) by omega), bl_eq, rd_get l j hj, prev, chainB, hok, Bool.true_and, hw]
            by_cases h4 : L l[j] < L l[j + 1]
            · have h4' : decide (l[j].f0.toList < l[j + 1].f0.toList) = true := decide_eq_true h4
              rw [decide_eq_true h4, Bool.true_and]
              simp only [h4', if_true]
              exact ih
            · have h4' : decide (l[j].f0.toList < l[j + 1].f0.toList) = false := decide_eq_false h4
              rw [decide_eq_false h4, Bool.false_and]
              simp only [h4', Bool.false_eq_true, if_false]
              exact Ev.now _
theorem RCheck_ev (ep : Int) (l : List S46) (hl : l.length < 9223372036854775808) : Ev (fun k => shelfmarkref12_Check.f k ep l) (chk ep l) := by
  unfold shelfmarkref12_Check.f chk
  by_cases h0 : ep < 1
  · simp only [if_pos h0]
    exact Ev.step (fun _ => shelfmarkref12_Check.j0.eq_2 ..) (by simp only [if_true]; exact Ev.now _)
  · simp only [if_neg h0]
    refine Ev.step (fun _ => shelfmarkref12_Check.j0.eq_2 ..) ?_
    by_cases h1 : ep > 1099511627776
    · simp only [decide_eq_true h1, if_true, if_pos h1]; exact Ev.now _
    · simp only [decide_eq_false h1, Bool.false_eq_true, if_false, if_neg h1]
      unfold okB
      by_cases h2 : (l.length : Int) < 1
      · have : l = [] := List.eq_nil_of_length_eq_zero (by omega)
        simp only [if_pos h2]
        subst this
        simp only [ne_eq, not_true_eq_false, decide_false, Bool.false_and, Bool.false_eq_true, if_false]
        exact Ev.step (fun _ => shelfmarkref12_Check.j1.eq_2 ..) (by simp only [if_true]; exact Ev.now _)
      · have hne : l ≠ [] := by rintro rfl; simp at h2
        simp only [if_neg h2]
        by_cases h3 : (l.length : Int) > 8
        · simp only [if_pos h3, decide_eq_false (show ¬ l.length ≤ 8 by omega), Bool.false_and, Bool.and_false, Bool.false_eq_true, if_false]
          exact Ev.step (fun _ => shelfmarkref12_Check.j1.eq_2 ..) (by simp only [if_true]; exact Ev.now _)
        · simp only [if_neg h3, if_pos (show 0 < (l.length : Int) by omega), decide_eq_true (show l.length ≤ 8 by omega), decide_eq_true hne, Bool.true_and]
          refine Ev.step (fun _ => shelfmarkref12_Check.j1.eq_2 ..) ?_
          by_cases h4 : L (rd_T46 l 0) = []
          · have h4' : ((rd_T46 l 0).f0.toList != ([] : List UInt8)) = false := by rw [show (rd_T46 l 0).f0.toList = [] from h4]; rfl
            simp only [h4', Bool.false_eq_true, if_false, decide_eq_true h4, Bool.true_and]
            have := rcheck_l0 l ep hl l.length 0 (by omega)
            exact this
          · have h4' : ((rd_T46 l 0).f0.toList != ([] : List UInt8)) = true := bne_iff_ne.2 h4
            simp only [h4', if_true, decide_eq_false h4, Bool.false_and, Bool.false_eq_true, if_false]
            exact Ev.now _
/-- A list of parts that may be. -/
structure Good (l : List S46) : Prop where
  ne : l ≠ []
  le : l.length ≤ 8
  first : L (rd_T46 l 0) = []
  rises : l.Pairwise (fun p q => L p < L q)
  each : ∀ p ∈ l, partOk p = true
theorem chainB_iff : ∀ (l : List S46) (q : Option (List UInt8)), chainB q l = true ↔ (∀ x, q = some x → ∀ p ∈ l, x < L p) ∧ l.Pairwise (fun p q => L p < L q) ∧ ∀ p ∈ l, partOk p = true
  | [], q => by cases q <;> simp [chainB]
  | p :: t, q => by
    have ih := chainB_iff t (some (L p))
    have hs : chainB q (p :: t) = true ↔ (∀ x, q = some x → x < L p) ∧ partOk p = true ∧ chainB (some (L p)) t = true := by
      cases q with
      | none => simp [chainB]
      | some x => simp [chainB]
    rw [hs, ih]
    simp only [Option.some.injEq, forall_eq', List.pairwise_cons, List.mem_cons, forall_eq_or_imp]
    constructor
    · rintro ⟨h1, h2, h3, h4, h5⟩
      exact ⟨fun x hx => ⟨h1 x hx, fun a ha => List.lt_trans (h1 x hx) (h3 a ha)⟩, ⟨h3, h4⟩, h2, h5⟩
    · rintro ⟨h1, ⟨h3, h4⟩, h2, h5⟩
      exact ⟨fun x hx => (h1 x hx).1, h2, h3, h4, h5⟩
theorem okB_iff (l : List S46) : okB l = true ↔ Good l := by
  unfold okB
  simp only [Bool.and_eq_true, decide_eq_true_eq, chainB_iff]
  constructor
  · rintro ⟨⟨⟨h1, h2⟩, h3⟩, _, h4, h5⟩
    exact ⟨h1, h2, h3, h4, h5⟩
  · rintro ⟨h1, h2, h3, h4, h5⟩
    exact ⟨⟨⟨h1, h2⟩, h3⟩, (by intro x hx; cases hx), h4, h5⟩
theorem chk_zero {ep : Int} {l : List S46} : chk ep l = 0 ↔ 1 ≤ ep ∧ ep ≤ 1099511627776 ∧ Good l := by
  unfold chk
  by_cases h0 : ep < 1
  · rw [if_pos h0]; constructor
    · intro h; omega
    · intro h; omega
  · rw [if_neg h0]
    by_cases h1 : ep > 1099511627776
    · rw [if_pos h1]; constructor
      · intro h; omega
      · intro h; omega
    · rw [if_neg h1]
      by_cases h2 : okB l = true
      · rw [if_pos h2]; exact ⟨fun _ => ⟨by omega, by omega, (okB_iff l).1 h2⟩, fun _ => rfl⟩
      · rw [if_neg h2]; constructor
        · intro h; omega
        · intro h; exact absurd ((okB_iff l).2 h.2.2) h2
theorem Good.lt {l : List S46} (h : Good l) {i j : Nat} (hij : i < j) (hj : j < l.length) : L (l[i]'(by omega)) < L l[j] := List.pairwise_iff_getElem.1 h.rises i j (by omega) hj hij
theorem Good.pos {l : List S46} (h : Good l) : 0 < l.length := List.length_pos_iff.2 h.ne
theorem Good.zero {l : List S46} (h : Good l) : L (l[0]'h.pos) = [] := by have := h.first; rwa [show (0 : Int) = ((0 : Nat) : Int) from rfl, rd_get l 0 h.pos] at this
theorem nil_lt_ne {x : List UInt8} {y : List UInt8} (h : x < y) : y ≠ [] := by rintro rfl; exact List.not_lt_nil _ h
/-! Where a text is. -/
theorem ev_eq {α : Type} {g : Nat → Option α} {a b : α} (h : Ev g a) (h' : Ev g b) : a = b := by
  obtain ⟨K, hK⟩ := h
  obtain ⟨M, hM⟩ := h'
  have h1 := hK (max K M) (Nat.le_max_left _ _)
  rw [hM (max K M) (Nat.le_max_right _ _)] at h1
  exact (Option.some.inj h1).symm
theorem tw_all {α : Type} (p : α → Bool) : ∀ (l : List α) (x : α), x ∈ l.takeWhile p → p x = true
  | [], x, h => by simp at h
  | y :: t, x, h => by
    rw [List.takeWhile_cons] at h
    by_cases hy : p y = true
    · rw [if_pos hy] at h
      rcases List.mem_cons.1 h with rfl | h
      · exact hy
      · exact tw_all p t x h
    · rw [if_neg hy] at h; simp at h
/-- How many parts begin ahead of a text. -/
def sk (l : List S46) (a : List UInt8) : Nat := (l.takeWhile (fun p => decide (L p < a))).length
def hasB (l : List S46) (a : List UInt8) : Bool := decide (sk l a < l.length ∧ L (rd_T46 l (sk l a : Int)) = a)
theorem sk_le (l : List S46) (a : List UInt8) : sk l a ≤ l.length := by unfold sk; exact (List.takeWhile_prefix _).length_le
theorem sk_below (l : List S46) (a : List UInt8) (j : Nat) (h : j < sk l a) : L (l[j]'(Nat.lt_of_lt_of_le h (sk_le l a))) < a := by
  unfold sk at h
  have h1 := tw_all _ _ _ (List.getElem_mem h)
  have h2 : (l.takeWhile (fun p => decide (L p < a)))[j] = l[j]'(Nat.lt_of_lt_of_le h (sk_le l a)) := List.IsPrefix.getElem (List.takeWhile_prefix _) h
  rw [h2] at h1
  exact of_decide_eq_true h1
theorem sk_at (l : List S46) (a : List UInt8) (h : sk l a < l.length) : ¬ L l[sk l a] < a := by
  intro hlt
  have : ∀ (l : List S46) (h : sk l a < l.length), ¬ L (l[sk l a]) < a := by
    intro l
    induction l with
    | nil => intro h; simp at h
    | cons p t ih =>
      intro h
      by_cases hp : L p < a
      · have e : sk (p :: t) a = sk t a + 1 := by unfold sk; rw [List.takeWhile_cons_of_pos (by simpa using hp)]; rfl
        have h' : sk t a < t.length := by rw [e] at h; simpa using h
        have := ih h'
        simpa only [e, List.getElem_cons_succ] using this
      · have e : sk (p :: t) a = 0 := by unfold sk; rw [List.takeWhile_cons_of_neg (by simpa using hp)]; rfl
        simpa only [e, List.getElem_cons_zero] using hp
  exact this l h hlt
theorem Good.above {l : List S46} (hg : Good l) (a : List UInt8) (j : Nat) (h : sk l a ≤ j) (hj : j < l.length) : ¬ L l[j] < a := by
  rcases Nat.lt_or_ge (sk l a) j with h1 | h1
  · intro h2
    exact sk_at l a (by omega) (List.lt_trans (hg.lt h1 hj) h2)
  · obtain rfl : sk l a = j := by omega
    exact sk_at l a hj
theorem sk_uniq {l : List S46} (hg : Good l) (a : List UInt8) (i : Nat) (hi : i ≤ l.length) (h1 : ∀ j, j < i → ∀ hj : j < l.length, L l[j] < a) (h2 : ∀ hi : i < l.length, ¬ L l[i] < a) : i = sk l a := by
  rcases Nat.lt_trichotomy i (sk l a) with h | h | h
  · have := sk_le l a
    exact absurd (sk_below l a i h) (h2 (by omega))
  · exact h
  · exact absurd (h1 _ h (by omega)) (sk_at l a (by omega))
theorem cmp_eq (a b : ByteArray) : cmp_Compare_string.f a b = some (if a.toList < b.toList then -1 else if b.toList < a.toList then 1 else 0) := by
  unfold cmp_Compare_string.f cmp_isNaN_string.f
  simp only [Option.bind_some, bne_self_eq_false, Bool.false_eq_true, if_false, bl_eq, decide_eq_true_eq]
  by_cases h1 : a.toList < b.toList
  · simp only [if_pos h1]
  · by_cases h2 : b.toList < a.toList
    · simp only [if_neg h1, if_pos h2]
    · simp only [if_neg h1, if_neg h2]
theorem seek1_24 (a0 : ByteArray) (n : Int) (a : ByteArray) : atlas_seek_1_v24.f a0 n a = some (if a0.toList < a.toList then -1 else if a.toList < a0.toList then 1 else 0) := by
  show atlas_seek_1.f a0 n a = _
  unfold atlas_seek_1.f
  rw [cmp_eq]; rfl
theorem seek1_40 (a0 : ByteArray) (n : Int) (a : ByteArray) : atlas_seek_1_v40.f a0 n a = some (if a0.toList < a.toList then -1 else if a.toList < a0.toList then 1 else 0) := by
  show atlas_seek_1.f a0 n a = _
  unfold atlas_seek_1.f
  rw [cmp_eq]; rfl
theorem mid_eq (i j : Nat) (hj : j < 4611686018427387904) (hij : i < j) : wrap64 ((IntKind.u64.wrap (wrap64 ((i : Int) + (j : Int)))) / 2) = (((i + j) / 2 : Nat) : Int) := by
  rw [w64 (x := (i : Int) + j) (by omega) (by omega)]
  have : IntKind.u64.wrap ((i : Int) + (j : Int)) = (i : Int) + j := by
    show ((i : Int) + (j : Int)) % 18446744073709551616 = _
    omega
  rw [this, w64 (by omega) (by omega)]
  omega
theorem seek_l0 (l : List S46) (a : ByteArray) (hg : Good l) : ∀ (d i j : Nat), j - i ≤ d → i ≤ j → j ≤ l.length → (∀ q, q < i → ∀ h : q < l.length, L l[q] < a.toList) → (∀ h : j < l.length, ¬ L l[j] < a.toList) → Ev (fun k => slices_BinarySearchFunc_api_Part_api_Part_string_at_atlas_seek_1.l0 k l a (l.length : Int) (i : Int) (j : Int)) ((sk l a.toList : Int), hasB l a.toList) := by
  intro d
  induction d with
  | zero =>
    intro i j hd hij hj h1 h2
    obtain rfl : i = j := by omega
    have hs := sk_uniq hg a.toList i hj h1 h2
    refine Ev.step (fun _ => slices_BinarySearchFunc_api_Part_api_Part_string_at_atlas_seek_1.l0.eq_2 ..) ?_
    simp only [if_neg (show ¬ (i : Int) < (i : Int) by omega), ← hs]
    unfold hasB
    rw [← hs]
    by_cases hi : i < l.length
    · simp only [if_pos (show (i : Int) < (l.length : Int) by omega), if_pos (show (0 : Int) ≤ (i : Int) by omega), seek1_40, Option.bind_some, rd_get l i hi]
      have hn : ¬ l[i].f0.toList < a.toList := h2 hi
      simp only [if_neg hn]
      by_cases he : L l[i] = a.toList
      · have : ¬ a.toList < l[i].f0.toList := by rw [show l[i].f0.toList = a.toList from he]; exact List.lt_irrefl _
        simp only [if_neg this, hi, he, and_self, decide_true, true_and]
        exact Ev.now _
      · have : a.toList < l[i].f0.toList := by
          rcases Classical.em (a.toList < l[i].f0.toList) with h | h
          · exact h
          · exact absurd (List.le_antisymm h hn : l[i].f0.toList = a.toList) he
        simp only [if_pos this, hi, he, and_false, decide_false]
        exact Ev.now _
    · simp only [if_neg (show ¬ (i : Int) < (l.length : Int) by omega), hi, false_and, decide_false]
      exact Ev.now _
  | succ d ih =>
    intro i j hd hij hj h1 h2
    rcases Nat.eq_or_lt_of_le hij with rfl | hlt
    · exact ih i i (by omega) (by omega) hj h1 h2
    · refine Ev.step (fun _ => slices_BinarySearchFunc_api_Part_api_Part_string_at_atlas_seek_1.l0.eq_2 ..) ?_
      have hm := mid_eq i j (by have := hg.le; omega) hlt
      have hml : (i + j) / 2 < l.length := by omega
      simp only [if_pos (show (i : Int) < (j : Int) by omega), hm, if_pos (show (0 : Int) ≤ (((i + j) / 2 : Nat) : Int) by omega), if_pos (show (((i + j) / 2 : Nat) : Int) < (l.length : Int) by omega), seek1_24, Option.bind_some, rd_get l _ hml]
      by_cases hc : l[(i + j) / 2].f0.toList < a.toList
      · simp only [if_pos hc, show ((-1 : Int) < 0) = True by simp, if_true]
        have hw : wrap64 ((((i + j) / 2 : Nat) : Int) + 1) = (((i + j) / 2 + 1 : Nat) : Int) := by rw [w64 (by omega) (by have := hg.le; omega)]; omega
        rw [hw]
        refine ih _ j (by omega) (by omega) hj (fun q hq hql => ?_) h2
        rcases Nat.lt_or_ge q ((i + j) / 2) with h | h
        · exact List.lt_trans (hg.lt h hml) hc
        · obtain rfl : q = (i + j) / 2 := by omega
          exact hc
      · have hz : ¬ ((if a.toList < l[(i + j) / 2].f0.toList then (1 : Int) else 0) < 0) := by split <;> omega
        simp only [if_neg hc, if_neg hz]
        exact ih i _ (by omega) (by omega) (by omega) h1 (fun _ => hc)
theorem seek_ev (ep : Int) (l : List S46) (a : ByteArray) (hg : Good l) : Ev (fun k => atlas_seek.f k ep l a) ((sk l a.toList : Int), hasB l a.toList) := by
  unfold atlas_seek.f slices_BinarySearchFunc_api_Part_api_Part_string_at_atlas_seek_1.f
  refine Ev.bind (seek_l0 l a hg l.length 0 l.length (by omega) (by omega) (Nat.le_refl _) (fun q hq => by omega) (fun h => by omega)) ?_
  exact Ev.now _
/-- The place of the part that has a text. -/
def pl (l : List S46) (a : List UInt8) : Nat := if hasB l a = true then sk l a else sk l a - 1
theorem Good.sk_pos {l : List S46} (hg : Good l) (a : List UInt8) (h : hasB l a = false) : 0 < sk l a := by
  rcases Nat.eq_zero_or_pos (sk l a) with h0 | h0
  · exfalso
    have hp := hg.pos
    have h1 := sk_at l a (by omega)
    simp only [h0, hg.zero] at h1
    have ha : a = [] := by
      cases a with
      | nil => rfl
      | cons x t => exact absurd (List.nil_lt_cons x t) h1
    subst ha
    have : hasB l [] = true := by
      unfold hasB
      rw [h0]
      exact decide_eq_true ⟨hp, by rw [show ((0 : Nat) : Int) = 0 from rfl, hg.first]⟩
    rw [h] at this; cases this
  · exact h0
theorem hasB_lt {l : List S46} {a : List UInt8} (h : hasB l a = true) : ∃ hs : sk l a < l.length, L l[sk l a] = a := by
  unfold hasB at h
  obtain ⟨h1, h2⟩ := of_decide_eq_true h
  exact ⟨h1, by rwa [rd_get l _ h1] at h2⟩
theorem Good.pl_lt {l : List S46} (hg : Good l) (a : List UInt8) : pl l a < l.length := by
  unfold pl
  by_cases h : hasB l a = true
  · rw [if_pos h]; exact (hasB_lt h).1
  · rw [if_neg h]
    have := hg.sk_pos a (by simpa using h)
    have := sk_le l a
    omega
theorem Good.pl_at {l : List S46} (hg : Good l) (a : List UInt8) : ¬ a < L (l[pl l a]'(hg.pl_lt a)) := by
  by_cases h : hasB l a = true
  · obtain ⟨hs, he⟩ := hasB_lt h
    have : pl l a = sk l a := by unfold pl; rw [if_pos h]
    simp only [this, he]
    exact List.lt_irrefl _
  · have h0 := hg.sk_pos a (by simpa using h)
    have : pl l a = sk l a - 1 := by unfold pl; rw [if_neg h]
    simp only [this]
    intro hlt
    exact List.lt_irrefl a (List.lt_trans hlt (sk_below l a (sk l a - 1) (by omega)))
theorem Good.pl_next {l : List S46} (hg : Good l) (a : List UInt8) (j : Nat) (hj : pl l a < j) (hl : j < l.length) : a < L l[j] := by
  have key : ∀ j, sk l a ≤ j → ∀ hl : j < l.length, L l[j] ≠ a → a < L l[j] := by
    intro j hj hl hne
    rcases Classical.em (a < L l[j]) with h | h
    · exact h
    · exact absurd (List.le_antisymm h (hg.above a j hj hl)) hne
  by_cases h : hasB l a = true
  · obtain ⟨hs, he⟩ := hasB_lt h
    have e : pl l a = sk l a := by unfold pl; rw [if_pos h]
    rw [e] at hj
    have := hg.lt hj hl
    rwa [he] at this
  · have h0 := hg.sk_pos a (by simpa using h)
    have e : pl l a = sk l a - 1 := by unfold pl; rw [if_neg h]
    rcases Nat.eq_or_lt_of_le (show sk l a ≤ j by omega) with hj' | hj'
    · subst hj'
      refine key _ (Nat.le_refl _) hl (fun he => ?_)
      refine h ?_
      unfold hasB
      exact decide_eq_true ⟨hl, by rw [rd_get l _ hl]; exact he⟩
    · have h1 := hg.lt hj' hl
      have h2 := hg.above a (sk l a) (Nat.le_refl _) (by omega)
      rcases Classical.em (a < L l[j]) with h3 | h3
      · exact h3
      · exact absurd (List.le_antisymm h3 (hg.above a j (by omega) hl)) (fun he => h2 (by rw [he] at h1; exact h1))
theorem pl_uniq {l : List S46} (hg : Good l) (a : List UInt8) (i : Nat) (hi : i < l.length) (h1 : ¬ a < L l[i]) (h2 : ∀ h : i + 1 < l.length, a < L l[i + 1]) : i = pl l a := by
  have hp := hg.pl_lt a
  rcases Nat.lt_trichotomy i (pl l a) with h | h | h
  · exfalso
    have h3 := h2 (by omega)
    rcases Nat.eq_or_lt_of_le (show i + 1 ≤ pl l a from h) with h4 | h4
    · exact hg.pl_at a (by simpa only [← h4] using h3)
    · exact hg.pl_at a (List.lt_trans h3 (hg.lt h4 hp))
  · exact h
  · exact absurd (hg.pl_next a i h hi) h1
theorem Find_ev (ep : Int) (l : List S46) (a : ByteArray) (hl : l.length < 9223372036854775808) : Ev (fun k => atlas_Find.f k ep l a) (if chk ep l = 0 then ((pl l a.toList : Int), true) else (0, false)) := by
  unfold atlas_Find.f
  refine Ev.bind (Check_ev ep l hl) ?_
  by_cases h : chk ep l = 0
  · simp only [if_pos h]
    have hg := (chk_zero.1 h).2.2
    refine Ev.bind (seek_ev ep l a hg) ?_
    unfold pl
    cases hb : hasB l a.toList with
    | true => simp only [if_true]; exact Ev.now _
    | false =>
      have h0 := hg.sk_pos a.toList hb
      have h1 := sk_le l a.toList
      simp only [Bool.false_eq_true, if_false]
      rw [w64 (by omega) (by omega), show ((sk l a.toList : Nat) : Int) - 1 = ((sk l a.toList - 1 : Nat) : Int) by omega]
      exact Ev.now _
  · simp only [if_neg h]; exact Ev.now _
theorem same_l0 (e1 e2 : Int) (l : List S46) (hl : l.length < 9223372036854775808) : ∀ (m i : Nat), i + m = l.length → Ev (fun k => shelfmarkref12_Same.l0 k (i : Int) e1 l e2 l) true
  | 0, i, h => by
    refine Ev.step (fun _ => shelfmarkref12_Same.l0.eq_2 ..) ?_
    simp only [if_neg (show ¬ (i : Int) < (l.length : Int) by omega)]
    exact Ev.now _
  | m + 1, i, h => by
    refine Ev.step (fun _ => shelfmarkref12_Same.l0.eq_2 ..) ?_
    have hw : wrap64 ((i : Int) + 1) = ((i + 1 : Nat) : Int) := by rw [w64 (by omega) (by omega)]; omega
    simp only [if_pos (show (i : Int) < (l.length : Int) by omega), if_pos (show (0 : Int) ≤ (i : Int) by omega), beq_self_eq_true, Bool.not_true, Bool.or_self, Bool.false_eq_true, if_false, hw]
    exact same_l0 e1 e2 l hl m (i + 1) (by omega)
theorem Same_refl (e : Int) (l : List S46) (hl : l.length < 9223372036854775808) : Ev (fun k => shelfmarkref12_Same.f k e l e l) true := by
  unfold shelfmarkref12_Same.f
  simp only [if_true, bne_self_eq_false]
  refine Ev.step (fun _ => shelfmarkref12_Same.j0.eq_2 ..) ?_
  simp only [Bool.false_eq_true, if_false]
  exact same_l0 e e l hl l.length 0 (by omega)
/-- Light: whatever it answers, and that a light list is short. -/
theorem light_l0 (e : Int) (l : List S46) (hl : l.length < 9223372036854775808) : ∀ (m i : Nat), i + m = l.length → ∃ b, Ev (fun k => shelfmarkref12_Light.l0 k (i : Int) e l) b ∧ (b = true → l.length < 50)
  | 0, i, h => by
    refine ⟨decide ((l.length : Int) < 50), ?_, fun hb => by have := of_decide_eq_true hb; omega⟩
    refine Ev.step (fun _ => shelfmarkref12_Light.l0.eq_2 ..) ?_
    simp only [if_neg (show ¬ (i : Int) < (l.length : Int) by omega)]
    refine Ev.step (fun _ => shelfmarkref12_Light.j1.eq_2 ..) ?_
    simp only [Bool.false_eq_true, if_false]
    exact Ev.now _
  | m + 1, i, h => by
    have hw : wrap64 ((i : Int) + 1) = ((i + 1 : Nat) : Int) := by rw [w64 (by omega) (by omega)]; omega
    by_cases h50 : (i : Int) < 50
    · by_cases hs : ((rd_T46 l (i : Int)).f0.size : Int) > 300
      · refine ⟨false, ?_, fun h => by cases h⟩
        refine Ev.step (fun _ => shelfmarkref12_Light.l0.eq_2 ..) ?_
        simp only [if_pos (show (i : Int) < (l.length : Int) by omega), decide_eq_true h50]
        refine Ev.step (fun _ => shelfmarkref12_Light.j1.eq_2 ..) ?_
        simp only [if_true, if_pos (show (i : Int) < (l.length : Int) by omega), if_pos (show (0 : Int) ≤ (i : Int) by omega), if_pos hs]
        exact Ev.now _
      · obtain ⟨b, hb, hb2⟩ := light_l0 e l hl m (i + 1) (by omega)
        refine ⟨b, ?_, hb2⟩
        refine Ev.step (fun _ => shelfmarkref12_Light.l0.eq_2 ..) ?_
        simp only [if_pos (show (i : Int) < (l.length : Int) by omega), decide_eq_true h50]
        refine Ev.step (fun _ => shelfmarkref12_Light.j1.eq_2 ..) ?_
        simp only [if_true, if_pos (show (i : Int) < (l.length : Int) by omega), if_pos (show (0 : Int) ≤ (i : Int) by omega), if_neg hs, hw]
        exact hb
    · refine ⟨decide ((l.length : Int) < 50), ?_, fun hb => by have := of_decide_eq_true hb; omega⟩
      refine Ev.step (fun _ => shelfmarkref12_Light.l0.eq_2 ..) ?_
      simp only [if_pos (show (i : Int) < (l.length : Int) by omega), decide_eq_false h50]
      refine Ev.step (fun _ => shelfmarkref12_Light.j1.eq_2 ..) ?_
      simp only [Bool.false_eq_true, if_false]
      exact Ev.now _
theorem Light_ev (e : Int) (l : List S46) (hl : l.length < 9223372036854775808) : ∃ b, Ev (fun k => shelfmarkref12_Light.f k e l) b ∧ (b = true → l.length < 50) := by
  unfold shelfmarkref12_Light.f
  exact light_l0 e l hl l.length 0 (by omega)
end Go.Proofs.Ytmgjccpolkhhhaa.Ap
