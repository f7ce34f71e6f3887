/- DERIVED. Split and merged again a map has the parts that it had; moved there and back too. Conditions: none but those of the statement. -/
import Derived.Test.YtmgjccpolkhhhaaAr
import Derived.Test.YtmgjccpolkhhhaaRs
import Derived.Test.YtmgjccpolkhhhaaPAllx10
import Derived.Test.YtmgjccpolkhhhaaPAllx22
namespace Go.Proofs.Ytmgjccpolkhhhaa.Pure
open Go.RowKit Go.Proofs.Ytmgjccpolkhhhaa.PAll Go.Proofs.YtmgjccpolkhhhaaW.PrintWords Go.Proofs.YtmgjccpolkhhhaaW.PrintLast Go.Proofs.Ytmgjccpolkhhhaa.Ap Go.Proofs.Ytmgjccpolkhhhaa.Aq Go.Proofs.Ytmgjccpolkhhhaa.Ar Go.Proofs.Ytmgjccpolkhhhaa.Rs Go.Proofs.Ytmgjccpolkhhhaa.Ig
set_option linter.unusedSimpArgs false
set_option linter.unusedVariables false
theorem awake_AtlasBack : Ev (fun k => shelfmarklaw12_awake.f k) true := Ev.of shelfmarklaw12_awake.mono (k := 40) (by decide +kernel)
theorem max_lt {n : Nat} (h : n ≤ maxLen) : n < 9223372036854775808 := by unfold maxLen at h; omega
theorem back_j1 (ep : Int) (l : List S46) (a : ByteArray) (n : Int) (hl : l.length < 9223372036854775808) (he : ep ≤ 1000000) : Ev (fun k => shelfmarklaw12_AtlasBack.j1 k a n ep l) true := by
  refine Ev.step (fun _ => shelfmarklaw12_AtlasBack.j1.eq_2 ..) ?_
  refine Ev.bind (Move_ev ep l a n hl) ?_
  by_cases hz : (moveS ep l a n).2.2 = 0
  · simp only [if_pos hz]
    have hc : chk ep l = 0 := by
      rcases Classical.em (chk ep l = 0) with h | h
      · exact h
      · unfold moveS at hz; rw [if_neg h] at hz; exact absurd hz h
    obtain ⟨h1, h2, hg⟩ := chk_zero.1 hc
    have hm : mayV l n (pl l a.toList) = true := by
      rcases Classical.em (mayV l n (pl l a.toList) = true) with h | h
      · exact h
      · unfold moveS at hz; rw [if_pos hc, if_neg h] at hz; simp at hz
    have hd := hg.pl_lt a.toList
    have hS : moveS ep l a n = (ep + 1, l.set (pl l a.toList) (⟨(rd_T46 l (pl l a.toList : Int)).f0, n⟩ : S46), 0) := by
      unfold moveS; rw [if_pos hc, if_pos hm, if_neg (by omega)]
    refine Ev.bind (Find_ev ep l a hl) ?_
    simp only [if_pos hc, if_true, hS, if_neg (show ¬ ((pl l a.toList : Nat) : Int) < 0 by omega), decide_eq_false (show ¬ ((pl l a.toList : Nat) : Int) ≥ (l.length : Int) by omega)]
    refine Ev.step (fun _ => shelfmarklaw12_AtlasBack.j2.eq_2 ..) ?_
    simp only [Bool.false_eq_true, if_false, if_pos (show (0 : Int) ≤ ((pl l a.toList : Nat) : Int) by omega), if_pos (show ((pl l a.toList : Nat) : Int) < (l.length : Int) by omega)]
    refine Ev.bind (Move_ev _ _ a _ (by rw [List.length_set]; exact hl)) ?_
    rw [move_back hg a n h1 he hm]
    simp only [if_true]
    exact Ev.bind (Same_refl ep l hl) (Ev.now _)
  · simp only [if_neg hz]; exact Ev.now _
theorem AtlasBack (x0 : S24) (w0 : WF24 x0) (a1 : ByteArray) (w1 : a1.size ≤ 140737488351232) (a2 : Int) (w2 : (Lit.int .i64 a2).wf = true) : ∃ k, shelfmarklaw12_AtlasBack.f k x0.f0 x0.f1 a1 a2 = some true := by
  have hl := max_lt w0.2.1
  suffices h : Ev (fun k => shelfmarklaw12_AtlasBack.f k x0.f0 x0.f1 a1 a2) true from h.rounds
  unfold shelfmarklaw12_AtlasBack.f
  refine Ev.bind awake_AtlasBack ?_
  simp only [if_true]
  obtain ⟨b, hb, _⟩ := Light_ev x0.f0 x0.f1 hl
  refine Ev.bind hb ?_
  have hend : Ev (fun k => shelfmarklaw12_AtlasBack.j0 k a1 a2 true x0.f0 x0.f1) true := by
    refine Ev.step (fun _ => shelfmarklaw12_AtlasBack.j0.eq_2 ..) ?_
    simp only [if_true]; exact Ev.now _
  cases b with
  | false => simp only [Bool.false_eq_true, if_false]; exact hend
  | true =>
    simp only [if_true]
    by_cases hs : (a1.size : Int) > 300
    · simp only [if_pos hs]; exact hend
    · simp only [if_neg hs]
      by_cases he : x0.f0 > 1000000
      · simp only [decide_eq_true he]; exact hend
      · simp only [decide_eq_false he]
        refine Ev.step (fun _ => shelfmarklaw12_AtlasBack.j0.eq_2 ..) ?_
        simp only [Bool.false_eq_true, if_false]
        have hj := back_j1 x0.f0 x0.f1 a1 a2 hl (by omega)
        refine Ev.bind (Split_ev x0.f0 x0.f1 a1 hl) ?_
        by_cases hz : (splitS x0.f0 x0.f1 a1).2.2 = 0
        · simp only [if_pos hz]
          have hc : chk x0.f0 x0.f1 = 0 := by
            rcases Classical.em (chk x0.f0 x0.f1 = 0) with h | h
            · exact h
            · unfold splitS at hz; rw [if_neg h] at hz; exact absurd hz h
          obtain ⟨h1, h2, hg⟩ := chk_zero.1 hc
          have hm : mayS a1 (hasB x0.f1 a1.toList) x0.f1.length = true := by
            rcases Classical.em (mayS a1 (hasB x0.f1 a1.toList) x0.f1.length = true) with h | h
            · exact h
            · unfold splitS at hz; rw [if_pos hc, if_neg h] at hz; simp at hz
          have hS : splitS x0.f0 x0.f1 a1 = (x0.f0 + 1, x0.f1.take (sk x0.f1 a1.toList) ++ (⟨a1, (rd_T46 x0.f1 ((sk x0.f1 a1.toList : Int) - 1)).f1⟩ : S46) :: x0.f1.drop (sk x0.f1 a1.toList), 0) := by
            unfold splitS; rw [if_pos hc, if_pos hm, if_neg (by omega)]
          rw [hS]
          refine Ev.bind (Merge_ev _ _ a1 (by have := (split_good hg a1 hm).1.le; dsimp only; omega)) ?_
          dsimp only
          rw [split_merge hg a1 h1 (by omega) hm]
          simp only [if_true]
          refine Ev.bind (Same_refl x0.f0 x0.f1 hl) ?_
          simp only [if_true]
          exact hj
        · simp only [if_neg hz]; exact hj
end Go.Proofs.Ytmgjccpolkhhhaa.Pure
