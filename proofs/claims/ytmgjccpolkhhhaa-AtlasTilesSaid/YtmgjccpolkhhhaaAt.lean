/- DERIVED. Who has a text before and behind a plan. Conditions: those that each lemma names. -/
import Derived.Test.YtmgjccpolkhhhaaAr
namespace Go.Proofs.Ytmgjccpolkhhhaa.At
open Go.RowKit Go.Proofs.Ytmgjccpolkhhhaa.PAll Go.Proofs.YtmgjccpolkhhhaaW.PrintWords Go.Proofs.YtmgjccpolkhhhaaW.PrintLast Go.Proofs.Ytmgjccpolkhhhaa.Ap Go.Proofs.Ytmgjccpolkhhhaa.Aq Go.Proofs.Ytmgjccpolkhhhaa.Ar Go.Proofs.Ytmgjccpolkhhhaa.Ig
set_option linter.unusedSimpArgs false
set_option linter.unusedVariables false
/-- Who has a text. -/
def who (l : List S46) (key : List UInt8) : Int := (rd_T46 l (pl l key : Int)).f1
theorem who_at {l : List S46} (hg : Ap.Good l) (key : List UInt8) (j : Nat) (hj : j < l.length) (h1 : ¬ key < L l[j]) (h2 : ∀ h : j + 1 < l.length, key < L l[j + 1]) : who l key = l[j].f1 := by
  unfold who
  rw [← pl_uniq hg key j hj h1 h2, rd_get l j hj]
theorem who_pl {l : List S46} (hg : Ap.Good l) (key : List UInt8) : who l key = (l[pl l key]'(hg.pl_lt key)).f1 := by
  unfold who; rw [rd_get l _ (hg.pl_lt key)]
theorem ins_lo (l : List S46) (s : Nat) (p : S46) (hs : s ≤ l.length) (i : Nat) (hi : i < s) : (l.take s ++ p :: l.drop s)[i]'(by simp; omega) = l[i]'(by omega) := by
  rw [List.getElem_append_left (by rw [List.length_take]; omega), List.getElem_take]
theorem ins_hi (l : List S46) (s : Nat) (p : S46) (hs : s ≤ l.length) (i : Nat) (hi : s ≤ i) (hil : i < l.length) : (l.take s ++ p :: l.drop s)[i + 1]'(by simp; omega) = l[i] := by
  have e : (l.take s).length = s := by rw [List.length_take]; omega
  rw [List.getElem_append_right (by omega)]
  simp only [e, show i + 1 - s = (i - s) + 1 by omega, List.getElem_cons_succ, List.getElem_drop]
  congr 1; omega
theorem del_lo (l : List S46) (s : Nat) (i : Nat) (hi : i < s) (hs : s < l.length) : (l.take s ++ l.drop (s + 1))[i]'(by simp; omega) = l[i]'(by omega) := by
  rw [List.getElem_append_left (by rw [List.length_take]; omega), List.getElem_take]
theorem del_hi (l : List S46) (s : Nat) (i : Nat) (hi : s ≤ i) (hil : i + 1 < l.length) : (l.take s ++ l.drop (s + 1))[i]'(by simp; omega) = l[i + 1] := by
  have e : (l.take s).length = s := by rw [List.length_take]; omega
  rw [List.getElem_append_right (by omega)]
  simp only [e, List.getElem_drop]
  congr 1; omega
theorem split_who {l : List S46} (hg : Ap.Good l) (a : ByteArray) (hm : mayS a (hasB l a.toList) l.length = true) (key : List UInt8) :
    who (l.take (sk l a.toList) ++ (⟨a, (rd_T46 l ((sk l a.toList : Int) - 1)).f1⟩ : S46) :: l.drop (sk l a.toList)) key = who l key := by
  obtain ⟨hg', h0⟩ := split_good hg a hm
  have hs := sk_le l a.toList
  have hi := hg.pl_lt key
  have ha := hg.pl_at key
  have hn := hg.pl_next key
  rw [who_pl hg key]
  have hs1 : sk l a.toList - 1 < l.length := by omega
  have hlen : (l.take (sk l a.toList) ++ (⟨a, (rd_T46 l ((sk l a.toList : Int) - 1)).f1⟩ : S46) :: l.drop (sk l a.toList)).length = l.length + 1 := by simp; omega
  have hp : (rd_T46 l ((sk l a.toList : Int) - 1)).f1 = (l[sk l a.toList - 1]'hs1).f1 := by
    rw [show ((sk l a.toList : Nat) : Int) - 1 = ((sk l a.toList - 1 : Nat) : Int) by omega, rd_get l _ (by omega)]
  have hat : ∀ (h : sk l a.toList < (l.take (sk l a.toList) ++ (⟨a, (rd_T46 l ((sk l a.toList : Int) - 1)).f1⟩ : S46) :: l.drop (sk l a.toList)).length), (l.take (sk l a.toList) ++ (⟨a, (rd_T46 l ((sk l a.toList : Int) - 1)).f1⟩ : S46) :: l.drop (sk l a.toList))[sk l a.toList]'h = (⟨a, (rd_T46 l ((sk l a.toList : Int) - 1)).f1⟩ : S46) := fun h => ins_at l (sk l a.toList) (⟨a, (rd_T46 l ((sk l a.toList : Int) - 1)).f1⟩ : S46) hs
  have hlo : ∀ i (hi : i < sk l a.toList) (h : i < (l.take (sk l a.toList) ++ (⟨a, (rd_T46 l ((sk l a.toList : Int) - 1)).f1⟩ : S46) :: l.drop (sk l a.toList)).length), (l.take (sk l a.toList) ++ (⟨a, (rd_T46 l ((sk l a.toList : Int) - 1)).f1⟩ : S46) :: l.drop (sk l a.toList))[i]'h = l[i]'(Nat.lt_of_lt_of_le hi hs) := fun i hi h => ins_lo l (sk l a.toList) (⟨a, (rd_T46 l ((sk l a.toList : Int) - 1)).f1⟩ : S46) hs i hi
  have hhi : ∀ i (hi : sk l a.toList ≤ i) (hil : i < l.length) (h : i + 1 < (l.take (sk l a.toList) ++ (⟨a, (rd_T46 l ((sk l a.toList : Int) - 1)).f1⟩ : S46) :: l.drop (sk l a.toList)).length), (l.take (sk l a.toList) ++ (⟨a, (rd_T46 l ((sk l a.toList : Int) - 1)).f1⟩ : S46) :: l.drop (sk l a.toList))[i + 1]'h = l[i] := fun i hi hil h => ins_hi l (sk l a.toList) (⟨a, (rd_T46 l ((sk l a.toList : Int) - 1)).f1⟩ : S46) hs i hi hil
  generalize hl' : l.take (sk l a.toList) ++ (⟨a, (rd_T46 l ((sk l a.toList : Int) - 1)).f1⟩ : S46) :: l.drop (sk l a.toList) = l' at hg' hlen hat hlo hhi ⊢
  clear hl'
  rcases Classical.em (key < a.toList) with hk | hk
  · have his : pl l key < sk l a.toList := by
      rcases Nat.lt_or_ge (pl l key) (sk l a.toList) with h | h
      · exact h
      · exfalso
        refine hg.above a.toList (pl l key) h hi ?_
        rcases Classical.em (L (l[pl l key]) < key) with h1 | h1
        · exact List.lt_trans h1 hk
        · have : L (l[pl l key]) = key := List.le_antisymm ha h1
          rw [this]; exact hk
    rw [who_at hg' key (pl l key) (by omega) (by rw [hlo _ his]; exact ha) (fun h => ?_), hlo _ his]
    rcases Nat.eq_or_lt_of_le (show pl l key + 1 ≤ sk l a.toList by omega) with he | he
    · simp only [he, hat]; exact hk
    · rw [hlo _ he]; exact hn _ (Nat.lt_succ_self _) (by omega)
  · have his : sk l a.toList ≤ pl l key + 1 := by
      rcases Nat.lt_or_ge (pl l key + 1) (sk l a.toList) with h | h
      · exfalso
        have h1 := hn (pl l key + 1) (Nat.lt_succ_self _) (by omega)
        exact hk (List.lt_trans h1 (sk_below l a.toList (pl l key + 1) h))
      · exact h
    rcases Nat.eq_or_lt_of_le his with he | he
    · have e2 : pl l key = sk l a.toList - 1 := by omega
      rw [who_at hg' key (sk l a.toList) (by omega) (by rw [hat]; exact hk) (fun h => ?_), hat]
      · show (rd_T46 l ((sk l a.toList : Int) - 1)).f1 = _
        rw [hp]; simp only [e2]
      · rw [hhi _ (Nat.le_refl _) (by omega)]; exact hn _ (by omega) (by omega)
    · rw [who_at hg' key (pl l key + 1) (by omega) (by rw [hhi _ (by omega) hi]; exact ha) (fun h => ?_), hhi _ (by omega) hi]
      rw [hhi _ (by omega) (by omega)]; exact hn _ (by omega) (by omega)
theorem merge_good {l : List S46} (hg : Ap.Good l) (a : ByteArray) (hm : mayM l (hasB l a.toList) (sk l a.toList) = true) :
    Ap.Good (l.take (sk l a.toList) ++ l.drop (sk l a.toList + 1)) ∧ 0 < sk l a.toList ∧ sk l a.toList < l.length ∧ (rd_T46 l (sk l a.toList : Int)).f1 = (rd_T46 l ((sk l a.toList : Int) - 1)).f1 ∧ hasB l a.toList = true := by
  simp only [mayM, Bool.and_eq_true, decide_eq_true_eq] at hm
  obtain ⟨⟨hb, h0⟩, hn⟩ := hm
  obtain ⟨hs, he⟩ := hasB_lt hb
  refine ⟨⟨?_, by simp; have := hg.le; omega, ?_, ?_, ?_⟩, by omega, hs, hn, hb⟩
  · intro h
    have := congrArg List.length h
    simp only [List.length_append, List.length_take, List.length_drop, List.length_nil] at this
    omega
  · show L (rd_T46 _ ((0 : Nat) : Int)) = []
    rw [rd_get _ 0 (by simp; omega), del_lo l _ 0 (by omega) hs]
    exact hg.zero
  · rw [List.pairwise_append]
    refine ⟨hg.rises.sublist (List.take_sublist _ _), hg.rises.sublist (List.drop_sublist _ _), ?_⟩
    intro p hp q hq
    obtain ⟨i, hi, rfl⟩ := List.mem_iff_getElem.1 hp
    obtain ⟨j, hj, rfl⟩ := List.mem_iff_getElem.1 hq
    rw [List.length_take] at hi
    rw [List.length_drop] at hj
    rw [List.getElem_take, List.getElem_drop]
    exact hg.lt (by omega) (by omega)
  · intro p hp
    rcases List.mem_append.1 hp with h | h
    · exact hg.each p (List.mem_of_mem_take h)
    · exact hg.each p (List.mem_of_mem_drop h)
set_option maxHeartbeats 400000 in
theorem merge_who {l : List S46} (hg : Ap.Good l) (a : ByteArray) (hm : mayM l (hasB l a.toList) (sk l a.toList) = true) (key : List UInt8) :
    who (l.take (sk l a.toList) ++ l.drop (sk l a.toList + 1)) key = who l key := by
  obtain ⟨hg', h0, hs, hnode, hb⟩ := merge_good hg a hm
  obtain ⟨_, hL⟩ := hasB_lt hb
  have hi := hg.pl_lt key
  have ha := hg.pl_at key
  have hn := hg.pl_next key
  rw [who_pl hg key]
  have hlen : (l.take (sk l a.toList) ++ l.drop (sk l a.toList + 1)).length = l.length - 1 := by simp; omega
  have hlo : ∀ i (hi : i < sk l a.toList) (h : i < (l.take (sk l a.toList) ++ l.drop (sk l a.toList + 1)).length), (l.take (sk l a.toList) ++ l.drop (sk l a.toList + 1))[i]'h = l[i]'(Nat.lt_trans hi hs) := fun i hi h => del_lo l (sk l a.toList) i hi hs
  have hhi : ∀ i (hi : sk l a.toList ≤ i) (hil : i + 1 < l.length) (h : i < (l.take (sk l a.toList) ++ l.drop (sk l a.toList + 1)).length), (l.take (sk l a.toList) ++ l.drop (sk l a.toList + 1))[i]'h = l[i + 1] := fun i hi hil h => del_hi l (sk l a.toList) i hi hil
  generalize hl' : l.take (sk l a.toList) ++ l.drop (sk l a.toList + 1) = l' at *
  clear hl'
  rcases Nat.lt_trichotomy (pl l key) (sk l a.toList) with h | h | h
  · rw [who_at hg' key (pl l key) (by omega) (by rw [hlo _ h]; exact ha) (fun h2 => ?_), hlo _ h]
    rcases Nat.eq_or_lt_of_le (show pl l key + 1 ≤ sk l a.toList by omega) with he | he
    · simp only [he]
      rw [hhi _ (Nat.le_refl _) (by omega)]
      exact hn _ (by omega) (by omega)
    · rw [hlo _ he]; exact hn _ (Nat.lt_succ_self _) (by omega)
  · have e1 : l[pl l key].f1 = (l[sk l a.toList - 1]'(by omega)).f1 := by
      rw [rd_get l _ hs, show ((sk l a.toList : Nat) : Int) - 1 = ((sk l a.toList - 1 : Nat) : Int) by omega, rd_get l _ (by omega)] at hnode
      simp only [h]; exact hnode
    rw [e1, who_at hg' key (sk l a.toList - 1) (by omega) ?_ (fun h2 => ?_), hlo _ (by omega)]
    · rw [hlo _ (by omega)]
      intro hlt
      have := hg.lt (show sk l a.toList - 1 < pl l key by omega) hi
      exact ha (List.lt_trans hlt this)
    · have e2 : sk l a.toList - 1 + 1 = sk l a.toList := by omega
      simp only [e2]
      rw [hhi _ (Nat.le_refl _) (by omega)]
      exact hn _ (by omega) (by omega)
  · have e0 : pl l key - 1 + 1 = pl l key := by omega
    have e3 : l'[pl l key - 1]'(by omega) = l[pl l key] := by
      rw [hhi _ (by omega) (by omega)]; simp only [e0]
    rw [who_at hg' key (pl l key - 1) (by omega) (by rw [e3]; exact ha) (fun h2 => ?_), e3]
    rw [hhi _ (by omega) (by omega)]
    exact hn _ (by omega) (by omega)
theorem move_pl {l : List S46} (hg : Ap.Good l) (d : Nat) (n : Int) (hn : 1 ≤ n ∧ n ≤ 4) (hd : d < l.length) (key : List UInt8) : pl (l.set d (⟨(rd_T46 l (d : Int)).f0, n⟩ : S46)) key = pl l key := by
  have hg' := move_good hg d n hn hd
  refine (pl_uniq hg' key (pl l key) (by rw [List.length_set]; exact hg.pl_lt key) ?_ (fun h => ?_)).symm
  · rw [set_L l d n _ (hg.pl_lt key)]; exact hg.pl_at key
  · rw [List.length_set] at h
    rw [set_L l d n _ h]; exact hg.pl_next key _ (Nat.lt_succ_self _) h
theorem move_who {l : List S46} (hg : Ap.Good l) (d : Nat) (n : Int) (hn : 1 ≤ n ∧ n ≤ 4) (hd : d < l.length) (key : List UInt8) : who (l.set d (⟨(rd_T46 l (d : Int)).f0, n⟩ : S46)) key = if pl l key = d then n else who l key := by
  have hg' := move_good hg d n hn hd
  unfold who
  rw [move_pl hg d n hn hd key, rd_get _ _ (by rw [List.length_set]; exact hg.pl_lt key), rd_get l _ (hg.pl_lt key)]
  by_cases h : pl l key = d
  · rw [if_pos h]; simp only [h, List.getElem_set_self]
  · rw [if_neg h, List.getElem_set_ne (Ne.symm h)]
def actS (ep : Int) (l : List S46) (kind : Int) (a : ByteArray) (n : Int) : Int × List S46 × Int :=
  if kind = 1 then splitS ep l a else if kind = 2 then mergeS ep l a else if kind = 3 then moveS ep l a n else (ep, l, 0)
/-- What a plan does to a right map. -/
theorem act_good {ep : Int} {l : List S46} (hc : chk ep l = 0) (hep : ep < 1000000) (kind : Int) (a : ByteArray) (n : Int) :
    ((actS ep l kind a n).2.2 ≠ 0 ∧ (actS ep l kind a n).1 = 0 ∧ (actS ep l kind a n).2.1 = []) ∨
    ((actS ep l kind a n).2.2 = 0 ∧ chk (actS ep l kind a n).1 (actS ep l kind a n).2.1 = 0 ∧ (1 ≤ kind → kind ≤ 3 → (actS ep l kind a n).1 = ep + 1) ∧ (actS ep l kind a n).1 ≤ ep + 1 ∧ ∀ key, who (actS ep l kind a n).2.1 key = if kind = 3 ∧ pl l key = pl l a.toList then n else who l key) := by
  obtain ⟨h1, h2, hg⟩ := chk_zero.1 hc
  unfold actS
  by_cases k1 : kind = 1
  · rw [if_pos k1]
    unfold splitS
    rw [if_pos hc, if_neg (show ¬ ep = 1099511627776 by omega)]
    by_cases hm : mayS a (hasB l a.toList) l.length = true
    · rw [if_pos hm]
      exact .inr ⟨rfl, chk_zero.2 ⟨by omega, by omega, (split_good hg a hm).1⟩, fun _ _ => rfl, by omega, fun key => by rw [split_who hg a hm, if_neg (by omega)]⟩
    · rw [if_neg hm]; exact .inl ⟨by decide, rfl, rfl⟩
  · rw [if_neg k1]
    by_cases k2 : kind = 2
    · rw [if_pos k2]
      unfold mergeS
      rw [if_pos hc, if_neg (show ¬ ep = 1099511627776 by omega)]
      by_cases hm : mayM l (hasB l a.toList) (sk l a.toList) = true
      · rw [if_pos hm]
        exact .inr ⟨rfl, chk_zero.2 ⟨by omega, by omega, (merge_good hg a hm).1⟩, fun _ _ => rfl, by omega, fun key => by rw [merge_who hg a hm, if_neg (by omega)]⟩
      · rw [if_neg hm]; exact .inl ⟨by decide, rfl, rfl⟩
    · rw [if_neg k2]
      by_cases k3 : kind = 3
      · rw [if_pos k3]
        unfold moveS
        rw [if_pos hc, if_neg (show ¬ ep = 1099511627776 by omega)]
        by_cases hm : mayV l n (pl l a.toList) = true
        · rw [if_pos hm]
          have hn : 1 ≤ n ∧ n ≤ 4 := by simp only [mayV, nodeB, Bool.and_eq_true, decide_eq_true_eq] at hm; exact hm.1
          exact .inr ⟨rfl, chk_zero.2 ⟨by omega, by omega, move_good hg _ n hn (hg.pl_lt _)⟩, fun _ _ => rfl, by omega, fun key => by rw [move_who hg _ n hn (hg.pl_lt _) key]; simp only [k3, true_and]⟩
        · rw [if_neg hm]; exact .inl ⟨by decide, rfl, rfl⟩
      · rw [if_neg k3]
        exact .inr ⟨rfl, hc, fun _ _ => by omega, by omega, fun key => by rw [if_neg (by simp [k3])]⟩
end Go.Proofs.Ytmgjccpolkhhhaa.At
