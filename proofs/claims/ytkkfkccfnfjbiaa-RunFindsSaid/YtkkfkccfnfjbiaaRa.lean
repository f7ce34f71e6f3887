/- DERIVED. Heaps of heads: down puts the least one first. Conditions: those that each lemma names. -/
import Derived.Test.YtkkfkccfnfjbiaaHy
namespace Go.Proofs.Ytkkfkccfnfjbiaa.Ra
open Go.RowKit Go.Proofs.Ytkkfkccfnfjbiaa.PAll Go.Proofs.YtkkfkccfnfjbiaaW.PrintWords Go.Proofs.YtkkfkccfnfjbiaaW.PrintLast Go.Proofs.Ytkkfkccfnfjbiaa.Ht Go.Proofs.Ytkkfkccfnfjbiaa.Hu Go.Proofs.Ytkkfkccfnfjbiaa.Hv
set_option linter.unusedSimpArgs false
set_option linter.unusedVariables false
theorem bl_eq : ∀ (x y : List UInt8), Op.bytesLess x y = decide (x < y)
  | [], [] => by simp [Op.bytesLess]
  | _ :: _, [] => by simp [Op.bytesLess]
  | [], _ :: _ => by simp [Op.bytesLess]
  | a :: x, b :: y => by
    rw [Op.bytesLess, bl_eq x y]
    simp only [List.cons_lt_cons_iff]
    by_cases h1 : a < b <;> by_cases h2 : a = b <;> by_cases h3 : x < y <;> simp [h1, h2, h3]
/-- A change's key. -/
def K (c : S37) : List UInt8 := c.f0.toList
/-- A head's key. -/
def KH (x : S56) : List UInt8 := K (rd_T37 x.f0 0)
theorem less_iff (x y : S56) : lessB x y = true ↔ KH x < KH y ∨ (KH x = KH y ∧ x.f1 < y.f1) := by
  unfold lessB
  rw [bl_eq, bl_eq]
  show (decide (KH x < KH y) || (!(decide (KH y < KH x)) && decide (x.f1 < y.f1))) = true ↔ _
  simp only [Bool.or_eq_true, decide_eq_true_eq, Bool.and_eq_true, Bool.not_eq_true', decide_eq_false_iff_not]
  constructor
  · rintro (h | ⟨h1, h2⟩)
    · exact .inl h
    · by_cases h3 : KH x < KH y
      · exact .inl h3
      · exact .inr ⟨List.le_antisymm h1 h3, h2⟩
  · rintro (h | ⟨h1, h2⟩)
    · exact .inl h
    · exact .inr ⟨by rw [h1]; exact List.lt_irrefl _, h2⟩
def le (x y : S56) : Prop := lessB y x = false
theorem le_iff (x y : S56) : le x y ↔ KH x < KH y ∨ (KH x = KH y ∧ x.f1 ≤ y.f1) := by
  unfold le
  rw [← Bool.not_eq_true, less_iff]
  constructor
  · intro h
    have h1 : ¬ KH y < KH x := fun h1 => h (.inl h1)
    by_cases h2 : KH x < KH y
    · exact .inl h2
    · have h3 : KH x = KH y := List.le_antisymm h1 h2
      exact .inr ⟨h3, by have : ¬ y.f1 < x.f1 := fun h4 => h (.inr ⟨h3.symm, h4⟩); omega⟩
  · rintro (h | ⟨h, h1⟩) (h2 | ⟨h2, h3⟩)
    · exact List.lt_irrefl _ (List.lt_trans h h2)
    · rw [h2] at h; exact List.lt_irrefl _ h
    · rw [h] at h2; exact List.lt_irrefl _ h2
    · omega
theorem le_refl (x : S56) : le x x := (le_iff x x).2 (.inr ⟨rfl, Int.le_refl _⟩)
theorem le_trans {x y z : S56} (h : le x y) (k : le y z) : le x z := by
  rw [le_iff] at *
  rcases h with h | ⟨h, h1⟩ <;> rcases k with k | ⟨k, k1⟩
  · exact .inl (List.lt_trans h k)
  · exact .inl (by rw [← k]; exact h)
  · exact .inl (by rw [h]; exact k)
  · exact .inr ⟨h.trans k, by omega⟩
theorem le_of_less {x y : S56} (h : lessB x y = true) : le x y := by
  rw [less_iff] at h
  rw [le_iff]
  rcases h with h | ⟨h, h1⟩
  · exact .inl h
  · exact .inr ⟨h, by omega⟩
/-- From place s on each stands behind its parent. -/
def Heaped (vs : List S56) (s n : Nat) : Prop := ∀ j, 0 < j → j < n → s ≤ (j - 1) / 2 → le (at_ vs ((j - 1) / 2)) (at_ vs j)
/-- The same, but for the children of i; these stand behind i's parent. -/
def Almost (vs : List S56) (s n i : Nat) : Prop := (∀ j, 0 < j → j < n → s ≤ (j - 1) / 2 → (j - 1) / 2 ≠ i → le (at_ vs ((j - 1) / 2)) (at_ vs j)) ∧ (s < i → ∀ j, 0 < j → j < n → (j - 1) / 2 = i → s ≤ (i - 1) / 2 → le (at_ vs ((i - 1) / 2)) (at_ vs j))
theorem kid_least (vs : List S56) (i n : Nat) (h : ¬ n ≤ 2 * i + 1) (j : Nat) (h0 : 0 < j) (hj : j < n) (hp : (j - 1) / 2 = i) : le (at_ vs (kid vs i n)) (at_ vs j) := by
  have hj2 : j = 2 * i + 1 ∨ j = 2 * i + 2 := by omega
  unfold kid
  by_cases h1 : 2 * i + 2 < n ∧ lessB (at_ vs (2 * i + 2)) (at_ vs (2 * i + 1)) = true
  · rw [if_pos h1]
    rcases hj2 with rfl | rfl
    · exact le_of_less h1.2
    · exact le_refl _
  · rw [if_neg h1]
    rcases hj2 with rfl | rfl
    · exact le_refl _
    · unfold le
      rw [← Bool.not_eq_true]
      exact fun h2 => h1 ⟨hj, h2⟩
theorem kid_parent (vs : List S56) (i n : Nat) (h : ¬ n ≤ 2 * i + 1) : (kid vs i n - 1) / 2 = i ∧ 0 < kid vs i n := by
  unfold kid; split <;> omega
theorem down_heap : ∀ (k : Nat) (vs : List S56) (s i n : Nat) (vs' : List S56) (i' : Nat), downL k vs i n = some (vs', i') → n ≤ vs.length → s ≤ i → Almost vs s n i → Heaped vs' s n
  | 0, vs, s, i, n, vs', i', h, _, _, _ => by simp [downL] at h
  | k + 1, vs, s, i, n, vs', i', h, hn, hs, ha => by
    rw [downL] at h
    by_cases h1 : n ≤ 2 * i + 1
    · rw [if_pos h1] at h
      simp only [Option.some.injEq, Prod.mk.injEq] at h
      obtain ⟨rfl, rfl⟩ := h
      exact fun j h0 hj hp => ha.1 j h0 hj hp (by omega)
    · rw [if_neg h1] at h
      have hk := kid_lt vs i n h1
      have hkp := kid_parent vs i n h1
      have hkl := kid_least vs i n h1
      obtain ⟨q, hq⟩ : ∃ q, kid vs i n = q := ⟨_, rfl⟩
      rw [hq] at h hk hkp hkl
      by_cases hl : lessB (at_ vs q) (at_ vs i) = true
      · rw [if_pos hl] at h
        have hsw := fun m => at_swp vs i q m (by omega) (by omega)
        refine down_heap k (swp vs i q) s q n vs' i' h (by rw [swp_len]; exact hn) (by omega) ⟨fun j h0 hj hp hne => ?_, fun hsq j h0 hj hp hpp => ?_⟩
        · rw [hsw, hsw, if_neg hne]
          by_cases hji : j = i
          · -- the place of i, under its parent
            subst hji
            rw [if_neg (by omega), if_neg (by omega), if_pos rfl]
            exact ha.2 (by omega) q hkp.2 hk.1 hkp.1 hp
          · by_cases hpi : (j - 1) / 2 = i
            · rw [if_pos hpi]
              by_cases hjq : j = q
              · subst hjq; rw [if_pos rfl]; exact le_of_less hl
              · rw [if_neg hjq, if_neg hji]; exact hkl j h0 hj hpi
            · rw [if_neg hpi, if_neg (by rintro rfl; exact hpi hkp.1), if_neg hji]
              exact ha.1 j h0 hj hp hpi
        · rw [hkp.1, hsw, hsw, if_neg (by omega), if_pos rfl, if_neg (by omega), if_neg (by omega)]
          have := ha.1 j h0 hj (by omega) (by omega)
          rw [hp] at this
          exact this
      · rw [if_neg hl] at h
        simp only [Option.some.injEq, Prod.mk.injEq] at h
        obtain ⟨rfl, rfl⟩ := h
        intro j h0 hj hp
        by_cases hpi : (j - 1) / 2 = i
        · rw [hpi]
          exact le_trans (show le (at_ vs i) (at_ vs q) by unfold le; simpa using hl) (hkl j h0 hj hpi)
        · exact ha.1 j h0 hj hp hpi
theorem down_some : ∀ (k : Nat) (vs : List S56) (i n : Nat), i ≤ n → n < i + k → ∃ r, downL k vs i n = some r
  | 0, vs, i, n, hi, h => by
    omega
  | k + 1, vs, i, n, hi, h => by
    rw [downL]
    by_cases h1 : n ≤ 2 * i + 1
    · exact ⟨_, if_pos h1⟩
    · rw [if_neg h1]
      have hk := kid_lt vs i n h1
      split
      · exact down_some k _ _ _ (by omega) (by omega)
      · exact ⟨_, rfl⟩
theorem swp_perm (vs : List S56) (i j : Nat) (hi : i < vs.length) (hj : j < vs.length) : (swp vs i j).Perm vs := by
  unfold swp at_
  rw [List.getD_eq_getElem?_getD, List.getD_eq_getElem?_getD, List.getElem?_eq_getElem hi, List.getElem?_eq_getElem hj]
  exact List.set_set_perm hi hj
theorem down_perm : ∀ (k : Nat) (vs : List S56) (i n : Nat) (vs' : List S56) (i' : Nat), downL k vs i n = some (vs', i') → n ≤ vs.length → vs'.Perm vs ∧ ∀ m, n ≤ m → at_ vs' m = at_ vs m
  | 0, vs, i, n, vs', i', h, _ => by simp [downL] at h
  | k + 1, vs, i, n, vs', i', h, hn => by
    rw [downL] at h
    by_cases h1 : n ≤ 2 * i + 1
    · rw [if_pos h1] at h
      simp only [Option.some.injEq, Prod.mk.injEq] at h
      obtain ⟨rfl, rfl⟩ := h
      exact ⟨List.Perm.refl _, fun _ _ => rfl⟩
    · rw [if_neg h1] at h
      have hk := kid_lt vs i n h1
      split at h
      · obtain ⟨h2, h3⟩ := down_perm k _ _ n vs' i' h (by rw [swp_len]; exact hn)
        refine ⟨h2.trans (swp_perm vs _ _ (by omega) (by omega)), fun m hm => ?_⟩
        rw [h3 m hm, at_swp _ _ _ _ (by omega) (by omega), if_neg (by omega), if_neg (by omega)]
      · simp only [Option.some.injEq, Prod.mk.injEq] at h
        obtain ⟨rfl, rfl⟩ := h
        exact ⟨List.Perm.refl _, fun _ _ => rfl⟩
theorem root_least (vs : List S56) (n : Nat) (h : Heaped vs 0 n) : ∀ j, j < n → le (at_ vs 0) (at_ vs j) := by
  intro j
  induction j using Nat.strongRecOn with
  | _ j ih =>
    intro hj
    by_cases h0 : j = 0
    · subst h0; exact le_refl _
    · exact le_trans (ih ((j - 1) / 2) (by omega) (by omega)) (h j (by omega) hj (by omega))
theorem init_ok : ∀ (i : Nat) (vs : List S56) (n : Nat), n ≤ vs.length → i ≤ n → Heaped vs i n → ∃ vs', initL n i vs = some vs' ∧ vs'.Perm vs ∧ Heaped vs' 0 n
  | 0, vs, n, hn, hi, h => ⟨vs, rfl, List.Perm.refl _, h⟩
  | i + 1, vs, n, hn, hi, h => by
    obtain ⟨⟨us, i'⟩, hd⟩ := down_some (n + 1) vs i n (by omega) (by omega)
    have hp := down_perm _ _ _ _ _ _ hd hn
    have hh := down_heap _ _ i _ _ _ _ hd hn (Nat.le_refl _) ⟨fun j h0 hj hp hne => h j h0 hj (by omega), fun hlt => by omega⟩
    obtain ⟨vs', h1, h2, h3⟩ := init_ok i us n (by rw [hp.1.length_eq]; exact hn) (by omega) hh
    exact ⟨vs', by rw [initL, hd]; exact h1, h2.trans hp.1, h3⟩
theorem heaped_half (vs : List S56) (n : Nat) : Heaped vs (n / 2) n := fun j h0 hj hp => by omega
theorem fix_ok (h h' : S56) (t : List S56) (hh : Heaped (h :: t) 0 (h :: t).length) : ∃ r, downL ((h :: t).length + 1) ((h :: t).set 0 h') 0 (h :: t).length = some r ∧ r.1.Perm (h' :: t) ∧ Heaped r.1 0 r.1.length := by
  obtain ⟨⟨us, i'⟩, hd⟩ := down_some ((h :: t).length + 1) ((h :: t).set 0 h') 0 (h :: t).length (by omega) (by omega)
  have hp := down_perm _ _ _ _ _ _ hd (by simp)
  have hk := down_heap _ _ 0 _ _ _ _ hd (by simp) (Nat.le_refl _) ⟨fun j h0 hj hp hne => by
    have := hh j h0 hj hp
    have e1 : at_ ((h :: t).set 0 h') ((j - 1) / 2) = at_ (h :: t) ((j - 1) / 2) := by
      unfold at_; rw [List.getD_eq_getElem?_getD, List.getElem?_set_ne (Ne.symm hne), ← List.getD_eq_getElem?_getD]
    have e2 : at_ ((h :: t).set 0 h') j = at_ (h :: t) j := by
      unfold at_; rw [List.getD_eq_getElem?_getD, List.getElem?_set_ne (by omega), ← List.getD_eq_getElem?_getD]
    rw [e1, e2]; exact this, fun hlt => by omega⟩
  refine ⟨_, hd, hp.1, ?_⟩
  have hl : us.length = (h :: t).length := by have := hp.1.length_eq; simpa using this
  rw [hl]
  exact hk
theorem pop_ok (h h' : S56) (t : List S56) (hh : Heaped (h :: t) 0 (h :: t).length) : ∃ r, downL (h :: t).length (swp ((h :: t).set 0 h') 0 ((h :: t).length - 1)) 0 ((h :: t).length - 1) = some r ∧ (r.1.take ((h :: t).length - 1)).Perm t ∧ Heaped (r.1.take ((h :: t).length - 1)) 0 (r.1.take ((h :: t).length - 1)).length := by
  have hl0 : (h :: t).length = t.length + 1 := rfl
  have e : (h :: t).set 0 h' = h' :: t := rfl
  rw [hl0, e, Nat.add_sub_cancel]
  obtain ⟨⟨us, i'⟩, hd⟩ := down_some (t.length + 1) (swp (h' :: t) 0 t.length) 0 t.length (by omega) (by omega)
  have hsl : (swp (h' :: t) 0 t.length).length = t.length + 1 := by rw [swp_len]; rfl
  have hp := down_perm _ _ _ _ _ _ hd (by omega)
  have hsw := fun m => at_swp (h' :: t) 0 t.length m (by simp) (by simp)
  have hk := down_heap _ _ 0 _ _ _ _ hd (by omega) (Nat.le_refl _) ⟨fun j h0 hj hp hne => by
    rw [hsw, hsw, if_neg (by omega), if_neg hne, if_neg (by omega), if_neg (by omega)]
    have := hh j h0 (by rw [hl0]; omega) hp
    have e1 : at_ (h' :: t) ((j - 1) / 2) = at_ (h :: t) ((j - 1) / 2) := by
      obtain ⟨q, hq⟩ : ∃ q, (j - 1) / 2 = q + 1 := ⟨(j - 1) / 2 - 1, by omega⟩
      rw [hq]; rfl
    have e2 : at_ (h' :: t) j = at_ (h :: t) j := by
      obtain ⟨q, hq⟩ : ∃ q, j = q + 1 := ⟨j - 1, by omega⟩
      rw [hq]; rfl
    rw [e1, e2]; exact this, fun hlt => by omega⟩
  have hul : us.length = t.length + 1 := by rw [hp.1.length_eq]; exact hsl
  have hlast : at_ us t.length = h' := by
    rw [hp.2 _ (Nat.le_refl _), hsw, if_pos rfl]; rfl
  have hsplit : us = us.take t.length ++ [h'] := by
    conv => lhs; rw [← List.take_append_drop t.length us]
    congr 1
    rw [List.drop_eq_getElem_cons (by omega), List.drop_of_length_le (by omega)]
    congr 1
    have e3 := hlast
    unfold at_ at e3
    rw [List.getD_eq_getElem?_getD, List.getElem?_eq_getElem (show t.length < us.length by omega)] at e3
    exact e3
  refine ⟨_, hd, ?_, ?_⟩
  · have h1 : us.Perm (h' :: t) := hp.1.trans (swp_perm (h' :: t) 0 t.length (by simp) (by simp))
    have h2 : (us.take t.length ++ [h']).Perm (h' :: t) := by rw [← hsplit]; exact h1
    exact ((List.perm_append_comm (l₁ := us.take t.length) (l₂ := [h'])).symm.trans h2).cons_inv
  · have hlt : (us.take t.length).length = t.length := by rw [List.length_take]; omega
    show Heaped (us.take t.length) 0 (us.take t.length).length
    rw [hlt]
    intro j h0 hj hp
    have ea : ∀ m, m < t.length → at_ (us.take t.length) m = at_ us m := fun m hm => by
      unfold at_; rw [List.getD_eq_getElem?_getD, List.getElem?_take, if_pos hm, ← List.getD_eq_getElem?_getD]
    rw [ea _ (by omega), ea _ hj]
    exact hk j h0 hj hp
end Go.Proofs.Ytkkfkccfnfjbiaa.Ra
