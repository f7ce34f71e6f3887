/- DERIVED. What becomes of a map by a plan: Split, Merge, Move and the reference's, from some number of rounds on. Conditions: those that each lemma names. -/
import Derived.Test.YtmgjccpolkhhhaaAp
import Derived.Test.YtmgjccpolkhhhaaPAllx6
import Derived.Test.YtmgjccpolkhhhaaPAllx16
import Derived.Test.YtmgjccpolkhhhaaPAllx7
import Derived.Test.YtmgjccpolkhhhaaPAllx17
import Derived.Test.YtmgjccpolkhhhaaPAllx18
import Derived.Test.YtmgjccpolkhhhaaPAllx19
import Derived.Test.YtmgjccpolkhhhaaPAllx20
namespace Go.Proofs.Ytmgjccpolkhhhaa.Aq
open Go.RowKit Go.Proofs.Ytmgjccpolkhhhaa.PAll Go.Proofs.YtmgjccpolkhhhaaW.PrintWords Go.Proofs.YtmgjccpolkhhhaaW.PrintLast Go.Proofs.Ytmgjccpolkhhhaa.Ap Go.Proofs.Ytmgjccpolkhhhaa.Ig Go.Proofs.Ytmgjccpolkhhhaa.Ij
set_option linter.unusedSimpArgs false
set_option linter.unusedVariables false
def splitS (ep : Int) (l : List S46) (a : ByteArray) : Int × List S46 × Int :=
  if chk ep l = 0 then (if mayS a (hasB l a.toList) l.length = true then (if ep = 1099511627776 then (0, [], 4) else (ep + 1, l.take (sk l a.toList) ++ (⟨a, (rd_T46 l ((sk l a.toList : Int) - 1)).f1⟩ : S46) :: l.drop (sk l a.toList), 0)) else (0, [], 14)) else (0, [], chk ep l)
def mergeS (ep : Int) (l : List S46) (a : ByteArray) : Int × List S46 × Int :=
  if chk ep l = 0 then (if mayM l (hasB l a.toList) (sk l a.toList) = true then (if ep = 1099511627776 then (0, [], 4) else (ep + 1, l.take (sk l a.toList) ++ l.drop (sk l a.toList + 1), 0)) else (0, [], 14)) else (0, [], chk ep l)
def moveS (ep : Int) (l : List S46) (a : ByteArray) (n : Int) : Int × List S46 × Int :=
  if chk ep l = 0 then (if mayV l n (pl l a.toList) = true then (if ep = 1099511627776 then (0, [], 4) else (ep + 1, l.set (pl l a.toList) (⟨(rd_T46 l (pl l a.toList : Int)).f0, n⟩ : S46), 0)) else (0, [], 14)) else (0, [], chk ep l)
theorem Split_ev (ep : Int) (l : List S46) (a : ByteArray) (hl : l.length < 9223372036854775808) : Ev (fun k => atlas_Split.f k ep l a) (splitS ep l a) := by
  unfold atlas_Split.f splitF splitS
  refine Ev.bind (Check_ev ep l hl) ?_
  by_cases h : chk ep l = 0
  · obtain ⟨h1, h2, hg⟩ := chk_zero.1 h
    simp only [if_pos h, if_pos hg.le]
    refine Ev.bind (seek_ev ep l a hg) ?_
    by_cases hm : mayS a (hasB l a.toList) l.length = true
    · simp only [hm, if_true]
      by_cases h3 : ep = 1099511627776
      · simp only [if_pos h3]; exact Ev.now _
      · have hb : hasB l a.toList = false := by
          simp only [mayS, Bool.and_eq_true, Bool.not_eq_true'] at hm; exact hm.1.2
        have h0 := hg.sk_pos _ hb
        have h4 := sk_le l a.toList
        simp only [if_neg h3, if_pos (show 1 ≤ ep ∧ ep ≤ 1099511627775 ∧ 1 ≤ ((sk l a.toList : Nat) : Int) ∧ ((sk l a.toList : Nat) : Int) ≤ (l.length : Int) by omega), Int.toNat_natCast]
        exact Ev.now _
    · simp only [if_neg hm]; exact Ev.now _
  · simp only [if_neg h]; exact Ev.now _
theorem Merge_ev (ep : Int) (l : List S46) (a : ByteArray) (hl : l.length < 9223372036854775808) : Ev (fun k => atlas_Merge.f k ep l a) (mergeS ep l a) := by
  unfold atlas_Merge.f mergeF mergeS
  refine Ev.bind (Check_ev ep l hl) ?_
  by_cases h : chk ep l = 0
  · obtain ⟨h1, h2, hg⟩ := chk_zero.1 h
    simp only [if_pos h, if_pos hg.le]
    refine Ev.bind (seek_ev ep l a hg) ?_
    have hin : hasB l a.toList = true → 0 < ((sk l a.toList : Nat) : Int) → ((sk l a.toList : Nat) : Int) < (l.length : Int) := fun hb _ => by obtain ⟨hs, _⟩ := hasB_lt hb; omega
    simp only [if_pos hin]
    by_cases hm : mayM l (hasB l a.toList) (sk l a.toList) = true
    · simp only [hm, if_true]
      by_cases h3 : ep = 1099511627776
      · simp only [if_pos h3]; exact Ev.now _
      · have hb : hasB l a.toList = true ∧ 0 < ((sk l a.toList : Nat) : Int) := by
          simp only [mayM, Bool.and_eq_true, decide_eq_true_eq] at hm; exact ⟨hm.1.1, hm.1.2⟩
        have := hin hb.1 hb.2
        simp only [if_neg h3, if_pos (show 1 ≤ ep ∧ ep ≤ 1099511627775 ∧ 1 ≤ ((sk l a.toList : Nat) : Int) ∧ ((sk l a.toList : Nat) : Int) < (l.length : Int) by omega), Int.toNat_natCast]
        exact Ev.now _
    · simp only [if_neg hm]; exact Ev.now _
  · simp only [if_neg h]; exact Ev.now _
theorem Move_ev (ep : Int) (l : List S46) (a : ByteArray) (n : Int) (hl : l.length < 9223372036854775808) : Ev (fun k => atlas_Move.f k ep l a n) (moveS ep l a n) := by
  unfold atlas_Move.f moveF moveS
  refine Ev.bind (Check_ev ep l hl) ?_
  by_cases h : chk ep l = 0
  · obtain ⟨h1, h2, hg⟩ := chk_zero.1 h
    simp only [if_pos h, if_pos hg.le]
    refine Ev.bind (Find_ev ep l a hl) ?_
    have hp := hg.pl_lt a.toList
    simp only [if_pos h, true_and, if_pos (show 0 ≤ ((pl l a.toList : Nat) : Int) ∧ ((pl l a.toList : Nat) : Int) < (l.length : Int) by omega)]
    by_cases hm : mayV l n (pl l a.toList) = true
    · simp only [hm, if_true]
      by_cases h3 : ep = 1099511627776
      · simp only [if_pos h3]; exact Ev.now _
      · simp only [if_neg h3, if_pos (show 1 ≤ ep ∧ ep ≤ 1099511627775 by omega), Int.toNat_natCast]
        exact Ev.now _
    · simp only [if_neg hm]; exact Ev.now _
  · simp only [if_neg h]; exact Ev.now _
/-! The reference. -/
theorem app1 {α : Type} (acc : List α) (x : α) (t : List α) : acc ++ [x] ++ t = acc ++ x :: t := by simp
theorem app2 {α : Type} (acc : List α) (x y : α) (t : List α) : acc ++ [x] ++ [y] ++ t = acc ++ x :: y :: t := by simp
theorem begins_l0 (ep : Int) (l : List S46) (a : ByteArray) (hg : Ap.Good l) : ∀ (m i : Nat), i + m = l.length → (hasB l a.toList = true → i ≤ sk l a.toList) → Ev (fun k => shelfmarkref12_Begins.l0 k a (i : Int) ep l) (if hasB l a.toList = true then (sk l a.toList : Int) else -1)
  | 0, i, h, hi => by
    refine Ev.step (fun _ => shelfmarkref12_Begins.l0.eq_2 ..) ?_
    simp only [if_neg (show ¬ (i : Int) < (l.length : Int) by omega)]
    by_cases hb : hasB l a.toList = true
    · obtain ⟨hs, _⟩ := hasB_lt hb
      have := hi hb
      omega
    · simp only [if_neg hb]; exact Ev.now _
  | m + 1, i, h, hi => by
    have hil : i < l.length := by omega
    have hw : wrap64 ((i : Int) + 1) = ((i + 1 : Nat) : Int) := by rw [w64 (by omega) (by have := hg.le; omega)]; omega
    refine Ev.step (fun _ => shelfmarkref12_Begins.l0.eq_2 ..) ?_
    simp only [if_pos (show (i : Int) < (l.length : Int) by omega), if_pos (show (0 : Int) ≤ (i : Int) by omega), rd_get l i hil, hw]
    by_cases he : l[i].f0.toList = a.toList
    · simp only [if_pos he]
      have hsk : i = sk l a.toList := by
        refine sk_uniq hg _ i (by omega) (fun j hj hjl => ?_) (fun _ => ?_)
        · have := hg.lt hj hil
          rwa [show L l[i] = a.toList from he] at this
        · rw [show L l[i] = a.toList from he]; exact List.lt_irrefl _
      have hb : hasB l a.toList = true := by
        unfold hasB
        rw [← hsk]
        exact decide_eq_true ⟨hil, by rw [rd_get l i hil]; exact he⟩
      simp only [if_pos hb, ← hsk]
      exact Ev.now _
    · simp only [if_neg he]
      refine begins_l0 ep l a hg m (i + 1) (by omega) (fun hb => ?_)
      have := hi hb
      obtain ⟨hs, h2⟩ := hasB_lt hb
      rcases Nat.lt_or_ge i (sk l a.toList) with h | h
      · exact h
      · obtain rfl : i = sk l a.toList := by omega
        exact absurd h2 he
theorem Begins_ev (ep : Int) (l : List S46) (a : ByteArray) (hg : Ap.Good l) : Ev (fun k => shelfmarkref12_Begins.f k ep l a) (if hasB l a.toList = true then (sk l a.toList : Int) else -1) := by
  unfold shelfmarkref12_Begins.f
  exact begins_l0 ep l a hg l.length 0 (by omega) (fun _ => Nat.zero_le _)
theorem rsplit_l0 (ep E : Int) (l : List S46) (a : ByteArray) (d : Nat) (hl : l.length ≤ 8) : ∀ (m i : Nat) (acc : List S46), i + m = l.length → acc.length ≤ 2 * i → Ev (fun k => shelfmarkref12_Split.l0 k a (d : Int) (i : Int) ep l E acc) (E, acc ++ (if i ≤ d ∧ d < l.length then (l.drop i).take (d + 1 - i) ++ (⟨a, (rd_T46 l (d : Int)).f1⟩ : S46) :: l.drop (d + 1) else l.drop i), 0)
  | 0, i, acc, h, ha => by
    refine Ev.step (fun _ => shelfmarkref12_Split.l0.eq_2 ..) ?_
    rw [if_neg (by omega), List.drop_eq_nil_of_le (by omega), List.append_nil]
    simp only [if_neg (show ¬ (i : Int) < (l.length : Int) by omega)]
    exact Ev.now _
  | m + 1, i, acc, h, ha => by
    have hil : i < l.length := by omega
    have hw : wrap64 ((i : Int) + 1) = ((i + 1 : Nat) : Int) := by rw [w64 (by omega) (by omega)]; omega
    refine Ev.step (fun _ => shelfmarkref12_Split.l0.eq_2 ..) ?_
    simp only [if_pos (show (i : Int) < (l.length : Int) by omega), if_pos (show (0 : Int) ≤ (i : Int) by omega), if_pos (show acc.length < 5864062014805 by omega), Option.bind_some, hw, rd_get l i hil]
    by_cases hd : i = d
    · subst hd
      simp only [if_true, List.length_append, List.length_cons, List.length_nil, if_pos (show acc.length + (0 + 1) < 5864062014805 by omega)]
      have ih := rsplit_l0 ep E l a i hl m (i + 1) ((acc ++ [⟨l[i].f0, l[i].f1⟩]) ++ [⟨a, l[i].f1⟩]) (by omega) (by simp; omega)
      rw [if_neg (by omega)] at ih
      rw [if_pos ⟨Nat.le_refl _, hil⟩, drop_get l i hil, show i + 1 - i = 1 by omega, rd_get l i hil]
      rw [app2] at ih
      exact ih
    · simp only [if_neg (show ¬ ((i : Int) = (d : Int)) by omega)]
      have ih := rsplit_l0 ep E l a d hl m (i + 1) (acc ++ [⟨l[i].f0, l[i].f1⟩]) (by omega) (by simp; omega)
      by_cases hc : i ≤ d ∧ d < l.length
      · rw [if_pos (by omega)] at ih
        rw [if_pos hc, drop_get l i hil, show d + 1 - i = (d + 1 - (i + 1)) + 1 by omega, List.take_succ_cons]
        rw [app1] at ih
        exact ih
      · rw [if_neg (by omega)] at ih
        rw [if_neg hc, drop_get l i hil]
        rw [app1] at ih
        exact ih
theorem RSplit_ev (ep : Int) (l : List S46) (a : ByteArray) (hl : l.length < 9223372036854775808) : Ev (fun k => shelfmarkref12_Split.f k ep l a) (splitS ep l a) := by
  unfold shelfmarkref12_Split.f splitS
  refine Ev.bind (RCheck_ev ep l hl) ?_
  by_cases h : chk ep l = 0
  · obtain ⟨h1, h2, hg⟩ := chk_zero.1 h
    simp only [if_pos h]
    have hno : mayS a (hasB l a.toList) l.length = false → Ev (fun k => shelfmarkref12_Split.j0 k a true ep l) ((0, [], 14) : Int × List S46 × Int) := fun _ => by
      refine Ev.step (fun _ => shelfmarkref12_Split.j0.eq_2 ..) ?_
      simp only [if_true]; exact Ev.now _
    by_cases c1 : a.toList = []
    · have hm : mayS a (hasB l a.toList) l.length = false := by simp only [mayS, c1]; simp
      simp only [if_pos c1, hm, Bool.false_eq_true, if_false]
      exact hno hm
    · simp only [if_neg c1]
      by_cases c2 : (a.size : Int) > 100
      · have hm : mayS a (hasB l a.toList) l.length = false := by simp only [mayS, decide_eq_false (show ¬ (a.size : Int) ≤ 100 by omega)]; simp
        simp only [if_pos c2, hm, Bool.false_eq_true, if_false]
        exact hno hm
      · simp only [if_neg c2]
        refine Ev.bind (Begins_ev ep l a hg) ?_
        cases hb : hasB l a.toList with
        | true =>
          have hm : mayS a true l.length = false := by simp [mayS]
          simp only [if_true, if_pos (show ((sk l a.toList : Nat) : Int) ≥ 0 by omega), hm, Bool.false_eq_true, if_false]
          exact hno (by rw [hb]; exact hm)
        | false =>
          simp only [Bool.false_eq_true, if_false, if_neg (show ¬ ((-1 : Int) ≥ 0) by omega)]
          refine Ev.step (fun _ => shelfmarkref12_Split.j0.eq_2 ..) ?_
          by_cases c3 : (l.length : Int) ≥ 8
          · have hm : mayS a false l.length = false := by simp only [mayS, decide_eq_false (show ¬ (l.length : Int) < 8 by omega)]; simp
            simp only [decide_eq_true c3, if_true, hm, Bool.false_eq_true, if_false]; exact Ev.now _
          · have hm : mayS a false l.length = true := by simp only [mayS, decide_eq_true c1, decide_eq_true (show (a.size : Int) ≤ 100 by omega), decide_eq_true (show (l.length : Int) < 8 by omega)]; rfl
            simp only [decide_eq_false c3, Bool.false_eq_true, if_false, hm, if_true]
            by_cases c4 : ep = 1099511627776
            · simp only [if_pos c4]; exact Ev.now _
            · simp only [if_neg c4]
              refine Ev.bind (RFind_ev ep l a hl) ?_
              simp only [if_pos h]
              have h0 := hg.sk_pos _ hb
              have hsl := sk_le l a.toList
              have hp : pl l a.toList = sk l a.toList - 1 := by unfold pl; rw [hb]; rfl
              have hw : wrap64 (ep + 1) = ep + 1 := w64 (by omega) (by omega)
              have := rsplit_l0 ep (ep + 1) l a (sk l a.toList - 1) hg.le l.length 0 [] (by omega) (by simp)
              rw [if_pos ⟨Nat.zero_le _, by omega⟩] at this
              simp only [List.nil_append, List.drop_zero, Nat.sub_zero, show sk l a.toList - 1 + 1 = sk l a.toList by omega] at this
              rw [hp, hw, show ((sk l a.toList : Nat) : Int) - 1 = ((sk l a.toList - 1 : Nat) : Int) by omega]
              exact this
  · simp only [if_neg h]; exact Ev.now _
theorem rmerge_l0 (ep E : Int) (l : List S46) (d : Nat) (hl : l.length ≤ 8) : ∀ (m i : Nat) (acc : List S46), i + m = l.length → acc.length ≤ i → Ev (fun k => shelfmarkref12_Merge.l0 k (d : Int) (i : Int) ep l E acc) (E, acc ++ (if i ≤ d ∧ d < l.length then (l.drop i).take (d - i) ++ l.drop (d + 1) else l.drop i), 0)
  | 0, i, acc, h, ha => by
    refine Ev.step (fun _ => shelfmarkref12_Merge.l0.eq_2 ..) ?_
    rw [if_neg (by omega), List.drop_eq_nil_of_le (by omega), List.append_nil]
    simp only [if_neg (show ¬ (i : Int) < (l.length : Int) by omega)]
    exact Ev.now _
  | m + 1, i, acc, h, ha => by
    have hil : i < l.length := by omega
    have hw : wrap64 ((i : Int) + 1) = ((i + 1 : Nat) : Int) := by rw [w64 (by omega) (by omega)]; omega
    refine Ev.step (fun _ => shelfmarkref12_Merge.l0.eq_2 ..) ?_
    simp only [if_pos (show (i : Int) < (l.length : Int) by omega), if_pos (show (0 : Int) ≤ (i : Int) by omega), if_pos (show acc.length < 5864062014805 by omega), Option.bind_some, hw, rd_get l i hil]
    by_cases hd : i = d
    · subst hd
      simp only [if_true]
      have ih := rmerge_l0 ep E l i hl m (i + 1) acc (by omega) (by omega)
      rw [if_neg (by omega)] at ih
      rw [if_pos ⟨Nat.le_refl _, hil⟩, Nat.sub_self, List.take_zero, List.nil_append]
      exact ih
    · simp only [if_neg (show ¬ ((i : Int) = (d : Int)) by omega)]
      have ih := rmerge_l0 ep E l d hl m (i + 1) (acc ++ [⟨l[i].f0, l[i].f1⟩]) (by omega) (by simp; omega)
      by_cases hc : i ≤ d ∧ d < l.length
      · rw [if_pos (by omega)] at ih
        rw [if_pos hc, drop_get l i hil, show d - i = (d - (i + 1)) + 1 by omega, List.take_succ_cons]
        rw [app1] at ih
        exact ih
      · rw [if_neg (by omega)] at ih
        rw [if_neg hc, drop_get l i hil]
        rw [app1] at ih
        exact ih
theorem RMerge_ev (ep : Int) (l : List S46) (a : ByteArray) (hl : l.length < 9223372036854775808) : Ev (fun k => shelfmarkref12_Merge.f k ep l a) (mergeS ep l a) := by
  unfold shelfmarkref12_Merge.f mergeS
  refine Ev.bind (RCheck_ev ep l hl) ?_
  by_cases h : chk ep l = 0
  · obtain ⟨h1, h2, hg⟩ := chk_zero.1 h
    simp only [if_pos h]
    refine Ev.bind (Begins_ev ep l a hg) ?_
    have hno : ∀ t : Int, Ev (fun k => shelfmarkref12_Merge.j0 k t true ep l) ((0, [], 14) : Int × List S46 × Int) := fun t => by
      refine Ev.step (fun _ => shelfmarkref12_Merge.j0.eq_2 ..) ?_
      simp only [if_true]; exact Ev.now _
    have h00 : a.toList = [] → sk l a.toList = 0 := fun c => by
      rw [c]
      have hp := hg.pos
      exact (sk_uniq hg [] 0 (by omega) (fun j hj => by omega) (fun _ => by rw [hg.zero]; exact List.lt_irrefl _)).symm
    cases hb : hasB l a.toList with
    | false =>
      have hm : mayM l false (sk l a.toList) = false := by simp [mayM]
      simp only [Bool.false_eq_true, if_false, hm, if_pos (show (-1 : Int) < 1 by omega)]
      by_cases c1 : a.toList = []
      · simp only [if_pos c1]; exact hno _
      · simp only [if_neg c1]; exact hno _
    | true =>
      obtain ⟨hs, he⟩ := hasB_lt hb
      simp only [if_true]
      by_cases c2 : ((sk l a.toList : Nat) : Int) < 1
      · have hm : mayM l true (sk l a.toList) = false := by simp only [mayM, decide_eq_false (show ¬ 0 < ((sk l a.toList : Nat) : Int) by omega)]; simp
        simp only [hm, Bool.false_eq_true, if_false, if_pos c2]
        by_cases c1 : a.toList = []
        · simp only [if_pos c1]; exact hno _
        · simp only [if_neg c1]; exact hno _
      · have c1 : ¬ a.toList = [] := fun c => by have := h00 c; omega
        have hw2 : wrap64 (((sk l a.toList : Nat) : Int) - 1) = ((sk l a.toList - 1 : Nat) : Int) := by rw [w64 (by omega) (by omega)]; omega
        simp only [if_neg c1, if_neg c2, if_pos (show (0 : Int) ≤ ((sk l a.toList : Nat) : Int) by omega), if_pos (show ((sk l a.toList : Nat) : Int) < (l.length : Int) by omega), hw2, if_pos (show (0 : Int) ≤ ((sk l a.toList - 1 : Nat) : Int) by omega), if_pos (show ((sk l a.toList - 1 : Nat) : Int) < (l.length : Int) by omega)]
        refine Ev.step (fun _ => shelfmarkref12_Merge.j0.eq_2 ..) ?_
        have hm : mayM l true (sk l a.toList) = !((rd_T46 l (sk l a.toList : Int)).f1 != (rd_T46 l ((sk l a.toList - 1 : Nat) : Int)).f1) := by
          simp only [mayM, decide_eq_true (show 0 < ((sk l a.toList : Nat) : Int) by omega), Bool.true_and, show ((sk l a.toList : Nat) : Int) - 1 = ((sk l a.toList - 1 : Nat) : Int) by omega]
          rw [Bool.eq_iff_iff]; simp
        rw [hm]
        cases hq : ((rd_T46 l (sk l a.toList : Int)).f1 != (rd_T46 l ((sk l a.toList - 1 : Nat) : Int)).f1) with
        | true => simp only [if_true, Bool.not_true, Bool.false_eq_true, if_false]; exact Ev.now _
        | false =>
          simp only [Bool.not_false, Bool.false_eq_true, if_false, if_true]
          by_cases c4 : ep = 1099511627776
          · simp only [if_pos c4]; exact Ev.now _
          · simp only [if_neg c4]
            have hw : wrap64 (ep + 1) = ep + 1 := w64 (by omega) (by omega)
            have := rmerge_l0 ep (ep + 1) l (sk l a.toList) hg.le l.length 0 [] (by omega) (by simp)
            rw [if_pos ⟨Nat.zero_le _, hs⟩] at this
            simp only [List.nil_append, List.drop_zero, Nat.sub_zero] at this
            rw [hw]
            exact this
  · simp only [if_neg h]; exact Ev.now _
theorem rmove_l0 (ep E : Int) (l : List S46) (n : Int) (d : Nat) (hl : l.length ≤ 8) : ∀ (m i : Nat) (acc : List S46), i + m = l.length → acc.length ≤ i → Ev (fun k => shelfmarkref12_Move.l0 k n (d : Int) (i : Int) ep l E acc) (E, acc ++ (l.set d (⟨(rd_T46 l (d : Int)).f0, n⟩ : S46)).drop i, 0)
  | 0, i, acc, h, ha => by
    refine Ev.step (fun _ => shelfmarkref12_Move.l0.eq_2 ..) ?_
    rw [List.drop_eq_nil_of_le (by rw [List.length_set]; omega), List.append_nil]
    simp only [if_neg (show ¬ (i : Int) < (l.length : Int) by omega)]
    exact Ev.now _
  | m + 1, i, acc, h, ha => by
    have hil : i < l.length := by omega
    have hw : wrap64 ((i : Int) + 1) = ((i + 1 : Nat) : Int) := by rw [w64 (by omega) (by omega)]; omega
    refine Ev.step (fun _ => shelfmarkref12_Move.l0.eq_2 ..) ?_
    simp only [if_pos (show (i : Int) < (l.length : Int) by omega), if_pos (show (0 : Int) ≤ (i : Int) by omega), if_pos (show acc.length < 5864062014805 by omega), hw, rd_get l i hil]
    rw [drop_get (l.set d _) i (by rw [List.length_set]; exact hil)]
    by_cases hd : i = d
    · subst hd
      simp only [if_true, List.getElem_set_self]
      have ih := rmove_l0 ep E l n i hl m (i + 1) (acc ++ [⟨l[i].f0, n⟩]) (by omega) (by simp; omega)
      rw [rd_get l i hil] at ih ⊢
      simpa using ih
    · simp only [if_neg (show ¬ ((i : Int) = (d : Int)) by omega), List.getElem_set_ne (Ne.symm hd)]
      have ih := rmove_l0 ep E l n d hl m (i + 1) (acc ++ [⟨l[i].f0, l[i].f1⟩]) (by omega) (by simp; omega)
      simpa using ih
theorem RMove_ev (ep : Int) (l : List S46) (a : ByteArray) (n : Int) (hl : l.length < 9223372036854775808) : Ev (fun k => shelfmarkref12_Move.f k ep l a n) (moveS ep l a n) := by
  unfold shelfmarkref12_Move.f moveS
  refine Ev.bind (RCheck_ev ep l hl) ?_
  by_cases h : chk ep l = 0
  · obtain ⟨h1, h2, hg⟩ := chk_zero.1 h
    simp only [if_pos h]
    refine Ev.bind (RFind_ev ep l a hl) ?_
    simp only [if_pos h]
    have hp := hg.pl_lt a.toList
    have hno : Ev (fun k => shelfmarkref12_Move.j0 k n ((pl l a.toList : Nat) : Int) true ep l) ((0, [], 14) : Int × List S46 × Int) := by
      refine Ev.step (fun _ => shelfmarkref12_Move.j0.eq_2 ..) ?_
      simp only [if_true]; exact Ev.now _
    by_cases c1 : n < 1
    · have hm : mayV l n (pl l a.toList) = false := by simp only [mayV, nodeB, decide_eq_false (show ¬ n ≥ 1 by omega)]; simp
      simp only [if_pos c1, hm, Bool.false_eq_true, if_false]; exact hno
    · simp only [if_neg c1]
      by_cases c2 : n > 4
      · have hm : mayV l n (pl l a.toList) = false := by simp only [mayV, nodeB, decide_eq_false (show ¬ n ≤ 4 by omega)]; simp
        simp only [if_pos c2, hm, Bool.false_eq_true, if_false]; exact hno
      · simp only [if_neg c2, if_pos (show (0 : Int) ≤ ((pl l a.toList : Nat) : Int) by omega), if_pos (show ((pl l a.toList : Nat) : Int) < (l.length : Int) by omega)]
        refine Ev.step (fun _ => shelfmarkref12_Move.j0.eq_2 ..) ?_
        have hm : mayV l n (pl l a.toList) = !((rd_T46 l (pl l a.toList : Int)).f1 == n) := by
          simp only [mayV, nodeB, decide_eq_true (show n ≥ 1 by omega), decide_eq_true (show n ≤ 4 by omega), Bool.true_and]
          rw [Bool.eq_iff_iff]; simp
        rw [hm]
        cases hq : ((rd_T46 l (pl l a.toList : Int)).f1 == n) with
        | true => simp only [if_true, Bool.not_true, Bool.false_eq_true, if_false]; exact Ev.now _
        | false =>
          simp only [Bool.not_false, Bool.false_eq_true, if_false, if_true]
          by_cases c4 : ep = 1099511627776
          · simp only [if_pos c4]; exact Ev.now _
          · simp only [if_neg c4]
            have hw : wrap64 (ep + 1) = ep + 1 := w64 (by omega) (by omega)
            have := rmove_l0 ep (ep + 1) l n (pl l a.toList) hg.le l.length 0 [] (by omega) (by simp)
            simp only [List.nil_append, List.drop_zero] at this
            rw [hw]
            exact this
  · simp only [if_neg h]; exact Ev.now _
end Go.Proofs.Ytmgjccpolkhhhaa.Aq
