/- DERIVED. What a part has, and where the reference finds a text. Conditions: those that each lemma names. -/
import Derived.Test.YtmgjccpolkhhhaaAp
import Derived.Test.YtmgjccpolkhhhaaPAllx13
import Derived.Test.YtmgjccpolkhhhaaPAllx13
import Derived.Test.YtmgjccpolkhhhaaPAllx12
import Derived.Test.YtmgjccpolkhhhaaPAllx13
namespace Go.Proofs.Ytmgjccpolkhhhaa.Ap
open Go.RowKit Go.Proofs.Ytmgjccpolkhhhaa.PAll Go.Proofs.YtmgjccpolkhhhaaW.PrintWords Go.Proofs.YtmgjccpolkhhhaaW.PrintLast
set_option linter.unusedSimpArgs false
set_option linter.unusedVariables false
/-- What a part has. -/
def ofS (ep : Int) (l : List S46) (i : Int) : ByteArray × ByteArray × Bool :=
  if chk ep l = 0 ∧ 0 ≤ i ∧ i < l.length then ((rd_T46 l i).f0, if i + 1 < l.length then (rd_T46 l (i + 1)).f0 else ⟨#[]⟩, true) else (⟨#[]⟩, ⟨#[]⟩, false)
theorem Of_ev (ep : Int) (l : List S46) (i : Int) (hl : l.length < 9223372036854775808) : Ev (fun k => atlas_Of.f k ep l i) (ofS ep l i) := by
  unfold atlas_Of.f
  refine Ev.bind (Check_ev ep l hl) ?_
  unfold ofS
  by_cases h : chk ep l = 0
  · simp only [h, if_true, true_and]
    by_cases h1 : i < 0
    · simp only [if_pos h1, if_neg (show ¬ (0 ≤ i ∧ i < (l.length : Int)) by omega)]
      exact Ev.step (fun _ => atlas_Of.j0.eq_2 ..) (by simp only [if_true]; exact Ev.now _)
    · simp only [if_neg h1]
      refine Ev.step (fun _ => atlas_Of.j0.eq_2 ..) ?_
      by_cases h2 : i ≥ (l.length : Int)
      · simp only [decide_eq_true h2, if_true, if_neg (show ¬ (0 ≤ i ∧ i < (l.length : Int)) by omega)]; exact Ev.now _
      · simp only [decide_eq_false h2, Bool.false_eq_true, if_false, if_pos (show 0 ≤ i ∧ i < (l.length : Int) by omega), if_pos (show 0 ≤ i by omega), if_pos (show i < (l.length : Int) by omega)]
        rw [w64 (x := (l.length : Int) - 1) (by omega) (by omega), w64 (x := i + 1) (by omega) (by omega)]
        by_cases h3 : i + 1 < (l.length : Int)
        · simp only [if_pos (show i < (l.length : Int) - 1 by omega), if_pos (show 0 ≤ i + 1 by omega), if_pos h3]; exact Ev.now _
        · simp only [if_neg (show ¬ i < (l.length : Int) - 1 by omega), if_neg h3]; exact Ev.now _
  · simp only [if_neg h, h, false_and, if_false]
    exact Ev.step (fun _ => atlas_Of.j0.eq_2 ..) (by simp only [if_true]; exact Ev.now _)
theorem ROf_ev (ep : Int) (l : List S46) (i : Int) (hl : l.length < 9223372036854775808) : Ev (fun k => shelfmarkref12_Of.f k ep l i) (ofS ep l i) := by
  unfold shelfmarkref12_Of.f
  refine Ev.bind (RCheck_ev ep l hl) ?_
  unfold ofS
  by_cases h : chk ep l = 0
  · simp only [h, if_true, true_and]
    by_cases h1 : i < 0
    · simp only [if_pos h1, if_neg (show ¬ (0 ≤ i ∧ i < (l.length : Int)) by omega)]
      exact Ev.step (fun _ => shelfmarkref12_Of.j0.eq_2 ..) (by simp only [if_true]; exact Ev.now _)
    · simp only [if_neg h1]
      refine Ev.step (fun _ => shelfmarkref12_Of.j0.eq_2 ..) ?_
      by_cases h2 : i ≥ (l.length : Int)
      · simp only [decide_eq_true h2, if_true, if_neg (show ¬ (0 ≤ i ∧ i < (l.length : Int)) by omega)]; exact Ev.now _
      · simp only [decide_eq_false h2, Bool.false_eq_true, if_false, if_pos (show 0 ≤ i ∧ i < (l.length : Int) by omega), if_pos (show 0 ≤ i by omega), if_pos (show i < (l.length : Int) by omega)]
        rw [w64 (x := (l.length : Int) - 1) (by omega) (by omega), w64 (x := i + 1) (by omega) (by omega)]
        by_cases h3 : i + 1 < (l.length : Int)
        · simp only [if_neg (show ¬ i = (l.length : Int) - 1 by omega), if_pos (show 0 ≤ i + 1 by omega), if_pos h3]; exact Ev.now _
        · simp only [if_pos (show i = (l.length : Int) - 1 by omega), if_neg h3]; exact Ev.now _
  · simp only [if_neg h, h, false_and, if_false]
    exact Ev.step (fun _ => shelfmarkref12_Of.j0.eq_2 ..) (by simp only [if_true]; exact Ev.now _)
theorem rfind_l0 (ep : Int) (l : List S46) (a : ByteArray) (hl : l.length < 9223372036854775808) : ∀ (m i : Nat), i + m = l.length → (chk ep l = 0 → i ≤ pl l a.toList) → Ev (fun k => shelfmarkref12_Find.l0 k a (i : Int) ep l) (if chk ep l = 0 then ((pl l a.toList : Int), true) else (0, false))
  | 0, i, h, hp => by
    refine Ev.step (fun _ => shelfmarkref12_Find.l0.eq_2 ..) ?_
    simp only [if_neg (show ¬ (i : Int) < (l.length : Int) by omega)]
    by_cases hc : chk ep l = 0
    · have := (chk_zero.1 hc).2.2.pl_lt a.toList
      have := hp hc
      omega
    · simp only [if_neg hc]; exact Ev.now _
  | m + 1, i, h, hp => by
    have hi : i < l.length := by omega
    refine Ev.step (fun _ => shelfmarkref12_Find.l0.eq_2 ..) ?_
    simp only [if_pos (show (i : Int) < (l.length : Int) by omega)]
    refine Ev.bind (ROf_ev ep l i hl) ?_
    have hw : wrap64 ((i : Int) + 1) = ((i + 1 : Nat) : Int) := by rw [w64 (by omega) (by omega)]; omega
    unfold ofS
    by_cases hc : chk ep l = 0
    · have hg := (chk_zero.1 hc).2.2
      have hp := hp hc
      simp only [hc, true_and, if_pos (show 0 ≤ (i : Int) ∧ (i : Int) < (l.length : Int) by omega), if_true, bl_eq, decide_eq_true_eq, rd_get l i hi, hw]
      have hnl : ¬ a.toList < l[i].f0.toList := by
        intro hlt
        rcases Nat.eq_or_lt_of_le hp with he | he
        · exact hg.pl_at a.toList (by unfold L; simpa only [← he] using hlt)
        · exact hg.pl_at a.toList (List.lt_trans hlt (hg.lt he (hg.pl_lt _)))
      simp only [if_neg hnl]
      by_cases hn : i + 1 < l.length
      · have e1 : rd_T46 l ((i : Int) + 1) = l[i + 1] := by rw [show (i : Int) + 1 = ((i + 1 : Nat) : Int) by omega, rd_get l _ hn]
        simp only [if_pos (show (i : Int) + 1 < (l.length : Int) by omega), e1]
        have hne : ¬ l[i + 1].f0.toList = [] := nil_lt_ne (hg.lt (Nat.lt_succ_self i) hn)
        simp only [if_neg hne]
        by_cases ha : a.toList < l[i + 1].f0.toList
        · simp only [if_pos ha]
          rw [← pl_uniq hg a.toList i hi hnl (fun _ => ha)]
          exact Ev.now _
        · simp only [if_neg ha]
          have ih := rfind_l0 ep l a hl m (i + 1) (by omega) (fun _ => by
            rcases Nat.lt_or_ge i (pl l a.toList) with h | h
            · exact h
            · exact absurd (hg.pl_next a.toList (i + 1) (by omega) hn) ha)
          simpa only [hc, if_true] using ih
      · simp only [if_neg (show ¬ (i : Int) + 1 < (l.length : Int) by omega)]
        have : (⟨#[]⟩ : ByteArray).toList = [] := by rw [ByteArray.toList_eq]
        simp only [this, if_true]
        rw [← pl_uniq hg a.toList i hi hnl (fun h => by omega)]
        exact Ev.now _
    · simp only [hc, false_and, if_false, Bool.false_eq_true, hw]
      have ih := rfind_l0 ep l a hl m (i + 1) (by omega) (fun h => absurd h hc)
      simpa only [hc, if_false] using ih
theorem RFind_ev (ep : Int) (l : List S46) (a : ByteArray) (hl : l.length < 9223372036854775808) : Ev (fun k => shelfmarkref12_Find.f k ep l a) (if chk ep l = 0 then ((pl l a.toList : Int), true) else (0, false)) := by
  unfold shelfmarkref12_Find.f
  exact rfind_l0 ep l a hl l.length 0 (by omega) (fun _ => Nat.zero_le _)
theorem Start_eq (n : Int) : atlas_Start.f n = shelfmarkref12_Start.f n := by
  unfold atlas_Start.f shelfmarkref12_Start.f
  rw [node_eq, Option.bind_some]
  by_cases h1 : n < 1
  · simp only [if_pos h1, decide_eq_false (show ¬ n ≥ 1 by omega), Bool.false_and, Bool.false_eq_true, if_false]
  · by_cases h2 : n > 4
    · simp only [if_neg h1, if_pos h2, decide_eq_false (show ¬ n ≤ 4 by omega), Bool.and_false, Bool.false_eq_true, if_false]
    · simp only [if_neg h1, if_neg h2, decide_eq_true (show n ≥ 1 by omega), decide_eq_true (show n ≤ 4 by omega), Bool.and_self, if_true]
theorem Start_some (n : Int) : ∃ r, atlas_Start.f n = some r := by
  rw [Start_eq]; unfold shelfmarkref12_Start.f
  split
  · exact ⟨_, rfl⟩
  · split <;> exact ⟨_, rfl⟩
end Go.Proofs.Ytmgjccpolkhhhaa.Ap
