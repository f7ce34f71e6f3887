/- DERIVED. What becomes of a map by a plan: Split, Merge and Move, from some number of rounds on. Conditions: those that each lemma names. -/
import Derived.Test.YtmgjccpolkhhhaaAp
import Derived.Test.YtmgjccpolkhhhaaPAllx6
import Derived.Test.YtmgjccpolkhhhaaPAllx16
import Derived.Test.YtmgjccpolkhhhaaPAllx7
namespace Go.Proofs.Ytmgjccpolkhhhaa.Aq
open Go.RowKit Go.Proofs.Ytmgjccpolkhhhaa.PAll Go.Proofs.YtmgjccpolkhhhaaW.PrintWords Go.Proofs.YtmgjccpolkhhhaaW.PrintLast Go.Proofs.Ytmgjccpolkhhhaa.Ap Go.Proofs.Ytmgjccpolkhhhaa.Ig Go.Proofs.Ytmgjccpolkhhhaa.Ij
set_option linter.unusedSimpArgs false
set_option linter.unusedVariables false
def splitS (ep : Int) (l : List S46) (a : ByteArray) : Int × List S46 × Int :=
  if chk ep l = 0 then (if mayS a (hasB l a.toList) l.length = true then (if ep = 1099511627776 then (0, [], 4) else (ep + 1, l.take (sk l a.toList) ++ (⟨a, (rd_T46 l ((sk l a.toList : Int) - 1)).f1⟩ : S46) :: l.drop (sk l a.toList), 0)) else (0, [], 14)) else (0, [], chk ep l)
def mergeS (ep : Int) (l : List S46) (a : ByteArray) : Int × List S46 × Int :=
  if chk ep l = 0 then (if mayM l (hasB l a.toList) (sk l a.toList) = true then (if ep = 1099511627776 then (0, [], 4) else (ep + 1, l.take (sk l a.toList) ++ l.drop (sk l a.toList + 1), 0)) else (0, [], 14)) else (0, [], chk ep l)
def moveS (ep : Int) (l : List S46) (a : ByteArray) (n : Int) : Int × List S46 × Int :=
  if chk ep l = 0 then (if mayV l n (pl l a.toList) = true then (if ep = 1099511627776 then (0, [], 4) else (ep + 1, l.set (pl l a.toList) (⟨(rd_T46 l (pl l a.toList : Int)).f0, n⟩ : S46), 0)) else (0, [], 14)) else (0, [], chk ep l)
theorem Split_ev (ep : Int) (l : List S46) (a : ByteArray) (hl : l.length < 9223372036854775808) : Ev (fun k => atlas_Split.f k ep l a) (splitS ep l a) := by
  unfold atlas_Split.f splitF splitS
  refine Ev.bind (Check_ev ep l hl) ?_
  by_cases h : chk ep l = 0
  · obtain ⟨h1, h2, hg⟩ := chk_zero.1 h
    simp only [if_pos h, if_pos hg.le]
    refine Ev.bind (seek_ev ep l a hg) ?_
    by_cases hm : mayS a (hasB l a.toList) l.length = true
    · simp only [hm, if_true]
      by_cases h3 : ep = 1099511627776
      · simp only [if_pos h3]; exact Ev.now _
      · have hb : hasB l a.toList = false := by
          simp only [mayS, Bool.and_eq_true, Bool.not_eq_true'] at hm; exact hm.1.2
        have h0 := hg.sk_pos _ hb
        have h4 := sk_le l a.toList
        simp only [if_neg h3, if_pos (show 1 ≤ ep ∧ ep ≤ 1099511627775 ∧ 1 ≤ ((sk l a.toList : Nat) : Int) ∧ ((sk l a.toList : Nat) : Int) ≤ (l.length : Int) by omega), Int.toNat_natCast]
        exact Ev.now _
    · simp only [if_neg hm]; exact Ev.now _
  · simp only [if_neg h]; exact Ev.now _
theorem Merge_ev (ep : Int) (l : List S46) (a : ByteArray) (hl : l.length < 9223372036854775808) : Ev (fun k => atlas_Merge.f k ep l a) (mergeS ep l a) := by
  unfold atlas_Merge.f mergeF mergeS
  refine Ev.bind (Check_ev ep l hl) ?_
  by_cases h : chk ep l = 0
  · obtain ⟨h1, h2, hg⟩ := chk_zero.1 h
    simp only [if_pos h, if_pos hg.le]
    refine Ev.bind (seek_ev ep l a hg) ?_
    have hin : hasB l a.toList = true → 0 < ((sk l a.toList : Nat) : Int) → ((sk l a.toList : Nat) : Int) < (l.length : Int) := fun hb _ => by obtain ⟨hs, _⟩ := hasB_lt hb; omega
    simp only [if_pos hin]
    by_cases hm : mayM l (hasB l a.toList) (sk l a.toList) = true
    · simp only [hm, if_true]
      by_cases h3 : ep = 1099511627776
      · simp only [if_pos h3]; exact Ev.now _
      · have hb : hasB l a.toList = true ∧ 0 < ((sk l a.toList : Nat) : Int) := by
          simp only [mayM, Bool.and_eq_true, decide_eq_true_eq] at hm; exact ⟨hm.1.1, hm.1.2⟩
        have := hin hb.1 hb.2
        simp only [if_neg h3, if_pos (show 1 ≤ ep ∧ ep ≤ 1099511627775 ∧ 1 ≤ ((sk l a.toList : Nat) : Int) ∧ ((sk l a.toList : Nat) : Int) < (l.length : Int) by omega), Int.toNat_natCast]
        exact Ev.now _
    · simp only [if_neg hm]; exact Ev.now _
  · simp only [if_neg h]; exact Ev.now _
theorem Move_ev (ep : Int) (l : List S46) (a : ByteArray) (n : Int) (hl : l.length < 9223372036854775808) : Ev (fun k => atlas_Move.f k ep l a n) (moveS ep l a n) := by
  unfold atlas_Move.f moveF moveS
  refine Ev.bind (Check_ev ep l hl) ?_
  by_cases h : chk ep l = 0
  · obtain ⟨h1, h2, hg⟩ := chk_zero.1 h
    simp only [if_pos h, if_pos hg.le]
    refine Ev.bind (Find_ev ep l a hl) ?_
    have hp := hg.pl_lt a.toList
    simp only [if_pos h, true_and, if_pos (show 0 ≤ ((pl l a.toList : Nat) : Int) ∧ ((pl l a.toList : Nat) : Int) < (l.length : Int) by omega)]
    by_cases hm : mayV l n (pl l a.toList) = true
    · simp only [hm, if_true]
      by_cases h3 : ep = 1099511627776
      · simp only [if_pos h3]; exact Ev.now _
      · simp only [if_neg h3, if_pos (show 1 ≤ ep ∧ ep ≤ 1099511627775 by omega), Int.toNat_natCast]
        exact Ev.now _
    · simp only [if_neg hm]; exact Ev.now _
  · simp only [if_neg h]; exact Ev.now _
end Go.Proofs.Ytmgjccpolkhhhaa.Aq
