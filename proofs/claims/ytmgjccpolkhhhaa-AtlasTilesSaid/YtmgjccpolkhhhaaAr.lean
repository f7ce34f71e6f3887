/- DERIVED. Plans that undo each other: a map that was split is merged to what it was, one that was moved is moved back. Conditions: those that each lemma names. -/
import Derived.Test.YtmgjccpolkhhhaaAqp
namespace Go.Proofs.Ytmgjccpolkhhhaa.Ar
open Go.RowKit Go.Proofs.Ytmgjccpolkhhhaa.PAll Go.Proofs.YtmgjccpolkhhhaaW.PrintWords Go.Proofs.YtmgjccpolkhhhaaW.PrintLast Go.Proofs.Ytmgjccpolkhhhaa.Ap Go.Proofs.Ytmgjccpolkhhhaa.Aq Go.Proofs.Ytmgjccpolkhhhaa.Ig
set_option linter.unusedSimpArgs false
set_option linter.unusedVariables false
theorem partOk_iff (p : S46) : partOk p = true ↔ (p.f0.size : Int) ≤ 100 ∧ 1 ≤ p.f1 ∧ p.f1 ≤ 4 := by
  simp [partOk]
/-- What is put into a list at its place: it is good again. -/
theorem split_good {l : List S46} (hg : Ap.Good l) (a : ByteArray) (hm : mayS a (hasB l a.toList) l.length = true) :
    Ap.Good (l.take (sk l a.toList) ++ (⟨a, (rd_T46 l ((sk l a.toList : Int) - 1)).f1⟩ : S46) :: l.drop (sk l a.toList)) ∧ 0 < sk l a.toList := by
  simp only [mayS, Bool.and_eq_true, Bool.not_eq_true', decide_eq_true_eq] at hm
  obtain ⟨⟨⟨c1, c2⟩, hb⟩, c3⟩ := hm
  have h0 := hg.sk_pos _ hb
  have hs := sk_le l a.toList
  have hp := hg.pos
  refine ⟨⟨by simp, by simp; omega, ?_, ?_, ?_⟩, h0⟩
  · have : rd_T46 (l.take (sk l a.toList) ++ (⟨a, (rd_T46 l ((sk l a.toList : Int) - 1)).f1⟩ : S46) :: l.drop (sk l a.toList)) ((0 : Nat) : Int) = l[0] := by
      rw [rd_get _ 0 (by simp; omega), List.getElem_append_left (by rw [List.length_take]; omega), List.getElem_take]
    show L (rd_T46 _ ((0 : Nat) : Int)) = []
    rw [this]; exact hg.zero
  · rw [List.pairwise_append, List.pairwise_cons]
    refine ⟨hg.rises.sublist (List.take_sublist _ _), ⟨?_, hg.rises.sublist (List.drop_sublist _ _)⟩, ?_⟩
    · intro q hq
      obtain ⟨j, hj, rfl⟩ := List.mem_iff_getElem.1 hq
      rw [List.length_drop] at hj
      rw [List.getElem_drop]
      have h1 := hg.above a.toList (sk l a.toList + j) (by omega) (by omega)
      rcases Classical.em (a.toList < L l[sk l a.toList + j]) with h | h
      · exact h
      · exfalso
        have he : L l[sk l a.toList + j] = a.toList := List.le_antisymm h h1
        have hsk : sk l a.toList + j = sk l a.toList := sk_uniq hg _ _ (by omega) (fun i hi hil => by have := hg.lt hi (show sk l a.toList + j < l.length by omega); rwa [he] at this) (fun _ => by rw [he]; exact List.lt_irrefl _)
        have : hasB l a.toList = true := by
          unfold hasB
          exact decide_eq_true ⟨by omega, by rw [rd_get l _ (by omega)]; simpa only [hsk] using he⟩
        rw [hb] at this; cases this
    · intro p hp q hq
      obtain ⟨i, hi, rfl⟩ := List.mem_iff_getElem.1 hp
      rw [List.length_take] at hi
      rw [List.getElem_take]
      have hlt := sk_below l a.toList i (by omega)
      rcases List.mem_cons.1 hq with rfl | hq
      · exact hlt
      · obtain ⟨j, hj, rfl⟩ := List.mem_iff_getElem.1 hq
        rw [List.length_drop] at hj
        rw [List.getElem_drop]
        exact hg.lt (by omega) (by omega)
  · intro p hp
    rcases List.mem_append.1 hp with h | h
    · exact hg.each p (List.mem_of_mem_take h)
    · rcases List.mem_cons.1 h with rfl | h
      · have hr : rd_T46 l ((sk l a.toList : Int) - 1) = l[sk l a.toList - 1]'(by omega) := by
          rw [show ((sk l a.toList : Nat) : Int) - 1 = ((sk l a.toList - 1 : Nat) : Int) by omega, rd_get l _ (by omega)]
        have := (partOk_iff _).1 (hg.each _ (List.getElem_mem (show sk l a.toList - 1 < l.length by omega)))
        rw [partOk_iff, hr]
        exact ⟨c2, this.2⟩
      · exact hg.each p (List.mem_of_mem_drop h)
theorem ins_at (l : List S46) (s : Nat) (p : S46) (hs : s ≤ l.length) : (l.take s ++ p :: l.drop s)[s]'(by simp; omega) = p := by
  rw [List.getElem_append_right (by rw [List.length_take]; omega)]
  simp [List.length_take, Nat.min_eq_left hs]
theorem split_merge {ep : Int} {l : List S46} (hg : Ap.Good l) (a : ByteArray) (he0 : 1 ≤ ep) (he : ep ≤ 1000000) (hm : mayS a (hasB l a.toList) l.length = true) :
    mergeS (ep + 1) (l.take (sk l a.toList) ++ (⟨a, (rd_T46 l ((sk l a.toList : Int) - 1)).f1⟩ : S46) :: l.drop (sk l a.toList)) a = (ep + 2, l, 0) := by
  obtain ⟨hg', h0⟩ := split_good hg a hm
  have hs := sk_le l a.toList
  generalize hl' : l.take (sk l a.toList) ++ (⟨a, (rd_T46 l ((sk l a.toList : Int) - 1)).f1⟩ : S46) :: l.drop (sk l a.toList) = l' at *
  have hlen : l'.length = l.length + 1 := by rw [← hl']; simp; omega
  have hat : l'[sk l a.toList]'(by omega) = (⟨a, (rd_T46 l ((sk l a.toList : Int) - 1)).f1⟩ : S46) := by simp only [← hl']; exact ins_at l _ _ hs
  have hbef : l'[sk l a.toList - 1]'(by omega) = l[sk l a.toList - 1]'(by omega) := by
    simp only [← hl']
    rw [List.getElem_append_left (by rw [List.length_take]; omega), List.getElem_take]
  have hL : L (l'[sk l a.toList]'(by omega)) = a.toList := by rw [hat]; rfl
  have hsk : sk l a.toList = sk l' a.toList := by
    refine sk_uniq hg' a.toList _ (by omega) (fun j hj hjl => ?_) (fun h => by rw [hL]; exact List.lt_irrefl _)
    have := hg'.lt hj (show sk l a.toList < l'.length by omega)
    rwa [hL] at this
  have hb : hasB l' a.toList = true := by
    unfold hasB
    rw [← hsk]
    exact decide_eq_true ⟨by omega, by rw [rd_get l' _ (by omega)]; exact hL⟩
  have hc : chk (ep + 1) l' = 0 := chk_zero.2 ⟨by omega, by omega, hg'⟩
  unfold mergeS
  have hmm : mayM l' (hasB l' a.toList) (sk l' a.toList) = true := by
    rw [hb, ← hsk]
    simp only [mayM, Bool.true_and, decide_eq_true (show 0 < ((sk l a.toList : Nat) : Int) by omega), decide_eq_true_eq]
    rw [rd_get l' _ (by omega), show ((sk l a.toList : Nat) : Int) - 1 = ((sk l a.toList - 1 : Nat) : Int) by omega, rd_get l' _ (by omega), hat, hbef]
    show (rd_T46 l ((sk l a.toList : Int) - 1)).f1 = _
    rw [show ((sk l a.toList : Nat) : Int) - 1 = ((sk l a.toList - 1 : Nat) : Int) by omega, rd_get l _ (by omega)]
  rw [if_pos hc, if_pos hmm, if_neg (by omega), ← hsk, ← hl']
  have e1 : (l.take (sk l a.toList)).length = sk l a.toList := by rw [List.length_take]; omega
  have e2 : List.take (sk l a.toList) (l.take (sk l a.toList) ++ (⟨a, (rd_T46 l ((sk l a.toList : Int) - 1)).f1⟩ : S46) :: l.drop (sk l a.toList)) = l.take (sk l a.toList) := by
    conv => lhs; arg 1; rw [← e1]
    exact List.take_left
  have e3 : List.drop (sk l a.toList + 1) (l.take (sk l a.toList) ++ (⟨a, (rd_T46 l ((sk l a.toList : Int) - 1)).f1⟩ : S46) :: l.drop (sk l a.toList)) = l.drop (sk l a.toList) := by
    rw [List.drop_append, e1, List.drop_eq_nil_of_le (by omega), show sk l a.toList + 1 - sk l a.toList = 1 by omega]; rfl
  rw [e2, e3, List.take_append_drop, show ep + 1 + 1 = ep + 2 by omega]
theorem set_L (l : List S46) (d : Nat) (n : Int) (i : Nat) (hi : i < l.length) : L ((l.set d (⟨(rd_T46 l (d : Int)).f0, n⟩ : S46))[i]'(by rw [List.length_set]; exact hi)) = L l[i] := by
  by_cases h : i = d
  · subst h
    rw [List.getElem_set_self, rd_get l i hi]; rfl
  · rw [List.getElem_set_ne (Ne.symm h)]
theorem move_good {l : List S46} (hg : Ap.Good l) (d : Nat) (n : Int) (hn : 1 ≤ n ∧ n ≤ 4) (hd : d < l.length) : Ap.Good (l.set d (⟨(rd_T46 l (d : Int)).f0, n⟩ : S46)) := by
  have hp := hg.pos
  refine ⟨by intro h; have := congrArg List.length h; rw [List.length_set, List.length_nil] at this; omega, by rw [List.length_set]; exact hg.le, ?_, ?_, ?_⟩
  · show L (rd_T46 _ ((0 : Nat) : Int)) = []
    rw [rd_get _ 0 (by rw [List.length_set]; exact hp), set_L l d n 0 hp]; exact hg.zero
  · rw [List.pairwise_iff_getElem]
    intro i j hi hj hij
    rw [List.length_set] at hi hj
    rw [set_L l d n i hi, set_L l d n j hj]
    exact hg.lt hij hj
  · intro p hp
    rcases List.mem_or_eq_of_mem_set hp with h | rfl
    · exact hg.each p h
    · rw [partOk_iff, rd_get l d hd]
      have := (partOk_iff _).1 (hg.each _ (List.getElem_mem hd))
      exact ⟨this.1, hn⟩
theorem move_back {ep : Int} {l : List S46} (hg : Ap.Good l) (a : ByteArray) (n : Int) (he0 : 1 ≤ ep) (he : ep ≤ 1000000) (hm : mayV l n (pl l a.toList) = true) :
    moveS (ep + 1) (l.set (pl l a.toList) (⟨(rd_T46 l (pl l a.toList : Int)).f0, n⟩ : S46)) a (rd_T46 l (pl l a.toList : Int)).f1 = (ep + 2, l, 0) := by
  have hd := hg.pl_lt a.toList
  simp only [mayV, nodeB, Bool.and_eq_true, decide_eq_true_eq] at hm
  have hg' := move_good hg (pl l a.toList) n ⟨hm.1.1, hm.1.2⟩ hd
  have hpl : pl l a.toList = pl (l.set (pl l a.toList) (⟨(rd_T46 l (pl l a.toList : Int)).f0, n⟩ : S46)) a.toList := by
    refine pl_uniq hg' _ _ (by rw [List.length_set]; exact hd) ?_ (fun h => ?_)
    · rw [set_L l _ n _ hd]; exact hg.pl_at _
    · rw [List.length_set] at h
      rw [set_L l _ n _ h]; exact hg.pl_next _ _ (Nat.lt_succ_self _) h
  have hc : chk (ep + 1) (l.set (pl l a.toList) (⟨(rd_T46 l (pl l a.toList : Int)).f0, n⟩ : S46)) = 0 := chk_zero.2 ⟨by omega, by omega, hg'⟩
  have hr : rd_T46 (l.set (pl l a.toList) (⟨(rd_T46 l (pl l a.toList : Int)).f0, n⟩ : S46)) (pl l a.toList : Int) = (⟨(rd_T46 l (pl l a.toList : Int)).f0, n⟩ : S46) := by
    rw [rd_get _ _ (by rw [List.length_set]; exact hd), List.getElem_set_self]
  have hok := (partOk_iff _).1 (hg.each _ (List.getElem_mem hd))
  rw [← rd_get l _ hd] at hok
  unfold moveS
  rw [if_pos hc, ← hpl, hr]
  have hmm : mayV (l.set (pl l a.toList) (⟨(rd_T46 l (pl l a.toList : Int)).f0, n⟩ : S46)) (rd_T46 l (pl l a.toList : Int)).f1 (pl l a.toList) = true := by
    simp only [mayV, nodeB, hr, Bool.and_eq_true, decide_eq_true_eq]
    exact ⟨hok.2, fun h => hm.2 h.symm⟩
  rw [if_pos hmm, if_neg (by omega), List.set_set, show ep + 1 + 1 = ep + 2 by omega]
  have : l.set (pl l a.toList) (⟨(rd_T46 l (pl l a.toList : Int)).f0, (rd_T46 l (pl l a.toList : Int)).f1⟩ : S46) = l := by
    rw [rd_get l _ hd]
    exact List.set_getElem_self hd
  rw [this]
end Go.Proofs.Ytmgjccpolkhhhaa.Ar
