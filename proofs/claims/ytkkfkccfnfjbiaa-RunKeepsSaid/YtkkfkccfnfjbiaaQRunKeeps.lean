/- DERIVED. What the printed functions come to, as far as this law asks it. Conditions: those that each lemma names. -/
import Derived.Test.YtkkfkccfnfjbiaaHy
import Derived.Test.YtkkfkccfnfjbiaaKc
import Derived.Test.YtkkfkccfnfjbiaaPGrx2
import Derived.Test.YtkkfkccfnfjbiaaPGrx4
import Derived.Test.YtkkfkccfnfjbiaaPGrx5
import Derived.Test.YtkkfkccfnfjbiaaPGrx6
import Derived.Test.YtkkfkccfnfjbiaaPGrx7
import Derived.Test.YtkkfkccfnfjbiaaPGrx8
import Derived.Test.YtkkfkccfnfjbiaaPGrx9
import Derived.Test.YtkkfkccfnfjbiaaPGrx10
import Derived.Test.YtkkfkccfnfjbiaaPGrx12
import Derived.Test.YtkkfkccfnfjbiaaPGrx13
import Derived.Test.YtkkfkccfnfjbiaaPGrx15
import Derived.Test.YtkkfkccfnfjbiaaPGrx16
import Derived.Test.YtkkfkccfnfjbiaaPGrx20
import Derived.Test.YtkkfkccfnfjbiaaPGrx21
namespace Go.Proofs.Ytkkfkccfnfjbiaa.Ra
open Go.RowKit Go.Proofs.Ytkkfkccfnfjbiaa.PGr Go.Proofs.YtkkfkccfnfjbiaaW.PrintWords Go.Proofs.YtkkfkccfnfjbiaaW.PrintLast Go.Proofs.Ytkkfkccfnfjbiaa.Ht Go.Proofs.Ytkkfkccfnfjbiaa.Hu Go.Proofs.Ytkkfkccfnfjbiaa.Hv
set_option linter.unusedSimpArgs false
set_option linter.unusedVariables false
theorem bl_eq : ∀ (x y : List UInt8), Op.bytesLess x y = decide (x < y)
  | [], [] => by simp [Op.bytesLess]
  | _ :: _, [] => by simp [Op.bytesLess]
  | [], _ :: _ => by simp [Op.bytesLess]
  | a :: x, b :: y => by
    rw [Op.bytesLess, bl_eq x y]
    simp only [List.cons_lt_cons_iff]
    by_cases h1 : a < b <;> by_cases h2 : a = b <;> by_cases h3 : x < y <;> simp [h1, h2, h3]
/-- A change's key. -/
def K (c : S37) : List UInt8 := c.f0.toList
/-- A head's key. -/
def KH (x : S56) : List UInt8 := K (rd_T37 x.f0 0)
theorem less_iff (x y : S56) : lessB x y = true ↔ KH x < KH y ∨ (KH x = KH y ∧ x.f1 < y.f1) := by
  unfold lessB
  rw [bl_eq, bl_eq]
  show (decide (KH x < KH y) || (!(decide (KH y < KH x)) && decide (x.f1 < y.f1))) = true ↔ _
  simp only [Bool.or_eq_true, decide_eq_true_eq, Bool.and_eq_true, Bool.not_eq_true', decide_eq_false_iff_not]
  constructor
  · rintro (h | ⟨h1, h2⟩)
    · exact .inl h
    · by_cases h3 : KH x < KH y
      · exact .inl h3
      · exact .inr ⟨List.le_antisymm h1 h3, h2⟩
  · rintro (h | ⟨h1, h2⟩)
    · exact .inl h
    · exact .inr ⟨by rw [h1]; exact List.lt_irrefl _, h2⟩
def le (x y : S56) : Prop := lessB y x = false
theorem le_iff (x y : S56) : le x y ↔ KH x < KH y ∨ (KH x = KH y ∧ x.f1 ≤ y.f1) := by
  unfold le
  rw [← Bool.not_eq_true, less_iff]
  constructor
  · intro h
    have h1 : ¬ KH y < KH x := fun h1 => h (.inl h1)
    by_cases h2 : KH x < KH y
    · exact .inl h2
    · have h3 : KH x = KH y := List.le_antisymm h1 h2
      exact .inr ⟨h3, by have : ¬ y.f1 < x.f1 := fun h4 => h (.inr ⟨h3.symm, h4⟩); omega⟩
  · rintro (h | ⟨h, h1⟩) (h2 | ⟨h2, h3⟩)
    · exact List.lt_irrefl _ (List.lt_trans h h2)
    · rw [h2] at h; exact List.lt_irrefl _ h
    · rw [h] at h2; exact List.lt_irrefl _ h2
    · omega
theorem le_refl (x : S56) : le x x := (le_iff x x).2 (.inr ⟨rfl, Int.le_refl _⟩)
theorem le_trans {x y z : S56} (h : le x y) (k : le y z) : le x z := by
  rw [le_iff] at *
  rcases h with h | ⟨h, h1⟩ <;> rcases k with k | ⟨k, k1⟩
  · exact .inl (List.lt_trans h k)
  · exact .inl (by rw [← k]; exact h)
  · exact .inl (by rw [h]; exact k)
  · exact .inr ⟨h.trans k, by omega⟩
theorem le_of_less {x y : S56} (h : lessB x y = true) : le x y := by
  rw [less_iff] at h
  rw [le_iff]
  rcases h with h | ⟨h, h1⟩
  · exact .inl h
  · exact .inr ⟨h, by omega⟩
/-- From place s on each stands behind its parent. -/
def Heaped (vs : List S56) (s n : Nat) : Prop := ∀ j, 0 < j → j < n → s ≤ (j - 1) / 2 → le (at_ vs ((j - 1) / 2)) (at_ vs j)
/-- The same, but for the children of i; these stand behind i's parent. -/
def Almost (vs : List S56) (s n i : Nat) : Prop := (∀ j, 0 < j → j < n → s ≤ (j - 1) / 2 → (j - 1) / 2 ≠ i → le (at_ vs ((j - 1) / 2)) (at_ vs j)) ∧ (s < i → ∀ j, 0 < j → j < n → (j - 1) / 2 = i → s ≤ (i - 1) / 2 → le (at_ vs ((i - 1) / 2)) (at_ vs j))
theorem kid_least (vs : List S56) (i n : Nat) (h : ¬ n ≤ 2 * i + 1) (j : Nat) (h0 : 0 < j) (hj : j < n) (hp : (j - 1) / 2 = i) : le (at_ vs (kid vs i n)) (at_ vs j) := by
  have hj2 : j = 2 * i + 1 ∨ j = 2 * i + 2 := by omega
  unfold kid
  by_cases h1 : 2 * i + 2 < n ∧ lessB (at_ vs (2 * i + 2)) (at_ vs (2 * i + 1)) = true
  · rw [if_pos h1]
    rcases hj2 with rfl | rfl
    · exact le_of_less h1.2
    · exact le_refl _
  · rw [if_neg h1]
    rcases hj2 with rfl | rfl
    · exact le_refl _
    · unfold le
      rw [← Bool.not_eq_true]
      exact fun h2 => h1 ⟨hj, h2⟩
theorem kid_parent (vs : List S56) (i n : Nat) (h : ¬ n ≤ 2 * i + 1) : (kid vs i n - 1) / 2 = i ∧ 0 < kid vs i n := by
  unfold kid; split <;> omega
theorem down_heap : ∀ (k : Nat) (vs : List S56) (s i n : Nat) (vs' : List S56) (i' : Nat), downL k vs i n = some (vs', i') → n ≤ vs.length → s ≤ i → Almost vs s n i → Heaped vs' s n
  | 0, vs, s, i, n, vs', i', h, _, _, _ => by simp [downL] at h
  | k + 1, vs, s, i, n, vs', i', h, hn, hs, ha => by
    rw [downL] at h
    by_cases h1 : n ≤ 2 * i + 1
    · rw [if_pos h1] at h
      simp only [Option.some.injEq, Prod.mk.injEq] at h
      obtain ⟨rfl, rfl⟩ := h
      exact fun j h0 hj hp => ha.1 j h0 hj hp (by omega)
    · rw [if_neg h1] at h
      have hk := kid_lt vs i n h1
      have hkp := kid_parent vs i n h1
      have hkl := kid_least vs i n h1
      obtain ⟨q, hq⟩ : ∃ q, kid vs i n = q := ⟨_, rfl⟩
      rw [hq] at h hk hkp hkl
      by_cases hl : lessB (at_ vs q) (at_ vs i) = true
      · rw [if_pos hl] at h
        have hsw := fun m => at_swp vs i q m (by omega) (by omega)
        refine down_heap k (swp vs i q) s q n vs' i' h (by rw [swp_len]; exact hn) (by omega) ⟨fun j h0 hj hp hne => ?_, fun hsq j h0 hj hp hpp => ?_⟩
        · rw [hsw, hsw, if_neg hne]
          by_cases hji : j = i
          · -- the place of i, under its parent
            subst hji
            rw [if_neg (by omega), if_neg (by omega), if_pos rfl]
            exact ha.2 (by omega) q hkp.2 hk.1 hkp.1 hp
          · by_cases hpi : (j - 1) / 2 = i
            · rw [if_pos hpi]
              by_cases hjq : j = q
              · subst hjq; rw [if_pos rfl]; exact le_of_less hl
              · rw [if_neg hjq, if_neg hji]; exact hkl j h0 hj hpi
            · rw [if_neg hpi, if_neg (by rintro rfl; exact hpi hkp.1), if_neg hji]
              exact ha.1 j h0 hj hp hpi
        · rw [hkp.1, hsw, hsw, if_neg (by omega), if_pos rfl, if_neg (by omega), if_neg (by omega)]
          have := ha.1 j h0 hj (by omega) (by omega)
          rw [hp] at this
          exact this
      · rw [if_neg hl] at h
        simp only [Option.some.injEq, Prod.mk.injEq] at h
        obtain ⟨rfl, rfl⟩ := h
        intro j h0 hj hp
        by_cases hpi : (j - 1) / 2 = i
        · rw [hpi]
          exact le_trans (show le (at_ vs i) (at_ vs q) by unfold le; simpa using hl) (hkl j h0 hj hpi)
        · exact ha.1 j h0 hj hp hpi
theorem down_some : ∀ (k : Nat) (vs : List S56) (i n : Nat), i ≤ n → n < i + k → ∃ r, downL k vs i n = some r
  | 0, vs, i, n, hi, h => by
    omega
  | k + 1, vs, i, n, hi, h => by
    rw [downL]
    by_cases h1 : n ≤ 2 * i + 1
    · exact ⟨_, if_pos h1⟩
    · rw [if_neg h1]
      have hk := kid_lt vs i n h1
      split
      · exact down_some k _ _ _ (by omega) (by omega)
      · exact ⟨_, rfl⟩
theorem swp_perm (vs : List S56) (i j : Nat) (hi : i < vs.length) (hj : j < vs.length) : (swp vs i j).Perm vs := by
  unfold swp at_
  rw [List.getD_eq_getElem?_getD, List.getD_eq_getElem?_getD, List.getElem?_eq_getElem hi, List.getElem?_eq_getElem hj]
  exact List.set_set_perm hi hj
theorem down_perm : ∀ (k : Nat) (vs : List S56) (i n : Nat) (vs' : List S56) (i' : Nat), downL k vs i n = some (vs', i') → n ≤ vs.length → vs'.Perm vs ∧ ∀ m, n ≤ m → at_ vs' m = at_ vs m
  | 0, vs, i, n, vs', i', h, _ => by simp [downL] at h
  | k + 1, vs, i, n, vs', i', h, hn => by
    rw [downL] at h
    by_cases h1 : n ≤ 2 * i + 1
    · rw [if_pos h1] at h
      simp only [Option.some.injEq, Prod.mk.injEq] at h
      obtain ⟨rfl, rfl⟩ := h
      exact ⟨List.Perm.refl _, fun _ _ => rfl⟩
    · rw [if_neg h1] at h
      have hk := kid_lt vs i n h1
      split at h
      · obtain ⟨h2, h3⟩ := down_perm k _ _ n vs' i' h (by rw [swp_len]; exact hn)
        refine ⟨h2.trans (swp_perm vs _ _ (by omega) (by omega)), fun m hm => ?_⟩
        rw [h3 m hm, at_swp _ _ _ _ (by omega) (by omega), if_neg (by omega), if_neg (by omega)]
      · simp only [Option.some.injEq, Prod.mk.injEq] at h
        obtain ⟨rfl, rfl⟩ := h
        exact ⟨List.Perm.refl _, fun _ _ => rfl⟩
theorem root_least (vs : List S56) (n : Nat) (h : Heaped vs 0 n) : ∀ j, j < n → le (at_ vs 0) (at_ vs j) := by
  intro j
  induction j using Nat.strongRecOn with
  | _ j ih =>
    intro hj
    by_cases h0 : j = 0
    · subst h0; exact le_refl _
    · exact le_trans (ih ((j - 1) / 2) (by omega) (by omega)) (h j (by omega) hj (by omega))
theorem init_ok : ∀ (i : Nat) (vs : List S56) (n : Nat), n ≤ vs.length → i ≤ n → Heaped vs i n → ∃ vs', initL n i vs = some vs' ∧ vs'.Perm vs ∧ Heaped vs' 0 n
  | 0, vs, n, hn, hi, h => ⟨vs, rfl, List.Perm.refl _, h⟩
  | i + 1, vs, n, hn, hi, h => by
    obtain ⟨⟨us, i'⟩, hd⟩ := down_some (n + 1) vs i n (by omega) (by omega)
    have hp := down_perm _ _ _ _ _ _ hd hn
    have hh := down_heap _ _ i _ _ _ _ hd hn (Nat.le_refl _) ⟨fun j h0 hj hp hne => h j h0 hj (by omega), fun hlt => by omega⟩
    obtain ⟨vs', h1, h2, h3⟩ := init_ok i us n (by rw [hp.1.length_eq]; exact hn) (by omega) hh
    exact ⟨vs', by rw [initL, hd]; exact h1, h2.trans hp.1, h3⟩
theorem heaped_half (vs : List S56) (n : Nat) : Heaped vs (n / 2) n := fun j h0 hj hp => by omega
theorem fix_ok (h h' : S56) (t : List S56) (hh : Heaped (h :: t) 0 (h :: t).length) : ∃ r, downL ((h :: t).length + 1) ((h :: t).set 0 h') 0 (h :: t).length = some r ∧ r.1.Perm (h' :: t) ∧ Heaped r.1 0 r.1.length := by
  obtain ⟨⟨us, i'⟩, hd⟩ := down_some ((h :: t).length + 1) ((h :: t).set 0 h') 0 (h :: t).length (by omega) (by omega)
  have hp := down_perm _ _ _ _ _ _ hd (by simp)
  have hk := down_heap _ _ 0 _ _ _ _ hd (by simp) (Nat.le_refl _) ⟨fun j h0 hj hp hne => by
    have := hh j h0 hj hp
    have e1 : at_ ((h :: t).set 0 h') ((j - 1) / 2) = at_ (h :: t) ((j - 1) / 2) := by
      unfold at_; rw [List.getD_eq_getElem?_getD, List.getElem?_set_ne (Ne.symm hne), ← List.getD_eq_getElem?_getD]
    have e2 : at_ ((h :: t).set 0 h') j = at_ (h :: t) j := by
      unfold at_; rw [List.getD_eq_getElem?_getD, List.getElem?_set_ne (by omega), ← List.getD_eq_getElem?_getD]
    rw [e1, e2]; exact this, fun hlt => by omega⟩
  refine ⟨_, hd, hp.1, ?_⟩
  have hl : us.length = (h :: t).length := by have := hp.1.length_eq; simpa using this
  rw [hl]
  exact hk
theorem pop_ok (h h' : S56) (t : List S56) (hh : Heaped (h :: t) 0 (h :: t).length) : ∃ r, downL (h :: t).length (swp ((h :: t).set 0 h') 0 ((h :: t).length - 1)) 0 ((h :: t).length - 1) = some r ∧ (r.1.take ((h :: t).length - 1)).Perm t ∧ Heaped (r.1.take ((h :: t).length - 1)) 0 (r.1.take ((h :: t).length - 1)).length := by
  have hl0 : (h :: t).length = t.length + 1 := rfl
  have e : (h :: t).set 0 h' = h' :: t := rfl
  rw [hl0, e, Nat.add_sub_cancel]
  obtain ⟨⟨us, i'⟩, hd⟩ := down_some (t.length + 1) (swp (h' :: t) 0 t.length) 0 t.length (by omega) (by omega)
  have hsl : (swp (h' :: t) 0 t.length).length = t.length + 1 := by rw [swp_len]; rfl
  have hp := down_perm _ _ _ _ _ _ hd (by omega)
  have hsw := fun m => at_swp (h' :: t) 0 t.length m (by simp) (by simp)
  have hk := down_heap _ _ 0 _ _ _ _ hd (by omega) (Nat.le_refl _) ⟨fun j h0 hj hp hne => by
    rw [hsw, hsw, if_neg (by omega), if_neg hne, if_neg (by omega), if_neg (by omega)]
    have := hh j h0 (by rw [hl0]; omega) hp
    have e1 : at_ (h' :: t) ((j - 1) / 2) = at_ (h :: t) ((j - 1) / 2) := by
      obtain ⟨q, hq⟩ : ∃ q, (j - 1) / 2 = q + 1 := ⟨(j - 1) / 2 - 1, by omega⟩
      rw [hq]; rfl
    have e2 : at_ (h' :: t) j = at_ (h :: t) j := by
      obtain ⟨q, hq⟩ : ∃ q, j = q + 1 := ⟨j - 1, by omega⟩
      rw [hq]; rfl
    rw [e1, e2]; exact this, fun hlt => by omega⟩
  have hul : us.length = t.length + 1 := by rw [hp.1.length_eq]; exact hsl
  have hlast : at_ us t.length = h' := by
    rw [hp.2 _ (Nat.le_refl _), hsw, if_pos rfl]; rfl
  have hsplit : us = us.take t.length ++ [h'] := by
    conv => lhs; rw [← List.take_append_drop t.length us]
    congr 1
    rw [List.drop_eq_getElem_cons (by omega), List.drop_of_length_le (by omega)]
    congr 1
    have e3 := hlast
    unfold at_ at e3
    rw [List.getD_eq_getElem?_getD, List.getElem?_eq_getElem (show t.length < us.length by omega)] at e3
    exact e3
  refine ⟨_, hd, ?_, ?_⟩
  · have h1 : us.Perm (h' :: t) := hp.1.trans (swp_perm (h' :: t) 0 t.length (by simp) (by simp))
    have h2 : (us.take t.length ++ [h']).Perm (h' :: t) := by rw [← hsplit]; exact h1
    exact ((List.perm_append_comm (l₁ := us.take t.length) (l₂ := [h'])).symm.trans h2).cons_inv
  · have hlt : (us.take t.length).length = t.length := by rw [List.length_take]; omega
    show Heaped (us.take t.length) 0 (us.take t.length).length
    rw [hlt]
    intro j h0 hj hp
    have ea : ∀ m, m < t.length → at_ (us.take t.length) m = at_ us m := fun m hm => by
      unfold at_; rw [List.getD_eq_getElem?_getD, List.getElem?_take, if_pos hm, ← List.getD_eq_getElem?_getD]
    rw [ea _ (by omega), ea _ hj]
    exact hk j h0 hj hp
end Go.Proofs.Ytkkfkccfnfjbiaa.Ra
namespace Go.Proofs.Ytkkfkccfnfjbiaa.Rb
open Go.RowKit Go.Proofs.Ytkkfkccfnfjbiaa.PGr Go.Proofs.YtkkfkccfnfjbiaaW.PrintWords Go.Proofs.YtkkfkccfnfjbiaaW.PrintLast Go.Proofs.Ytkkfkccfnfjbiaa.Ht Go.Proofs.Ytkkfkccfnfjbiaa.Hu Go.Proofs.Ytkkfkccfnfjbiaa.Hv Go.Proofs.Ytkkfkccfnfjbiaa.Hw Go.Proofs.Ytkkfkccfnfjbiaa.Ra
set_option linter.unusedSimpArgs false
set_option linter.unusedVariables false
def Sorted (l : List S37) : Prop := l.Pairwise (fun a b => K a < K b)
theorem Sorted.ext {a b : List S37} (ha : Sorted a) (hb : Sorted b) (h : ∀ c, c ∈ a ↔ c ∈ b) : a = b := by
  induction a generalizing b with
  | nil => cases b with
    | nil => rfl
    | cons y t => exact absurd ((h y).2 (by simp)) (by simp)
  | cons x s ih =>
    cases b with
    | nil => exact absurd ((h x).1 (by simp)) (by simp)
    | cons y t =>
      obtain ⟨hx, hs⟩ := List.pairwise_cons.1 ha
      obtain ⟨hy, ht⟩ := List.pairwise_cons.1 hb
      have hxy : x = y := by
        rcases List.mem_cons.1 ((h x).1 (by simp)) with e | e
        · exact e
        · rcases List.mem_cons.1 ((h y).2 (by simp)) with e2 | e2
          · exact e2.symm
          · exact absurd (List.lt_trans (hx y e2) (hy x e)) (List.lt_irrefl _)
      subst hxy
      congr 1
      refine ih hs ht fun c => ⟨fun hc => ?_, fun hc => ?_⟩
      · rcases List.mem_cons.1 ((h c).1 (List.mem_cons_of_mem _ hc)) with e | e
        · subst e; exact absurd (hx c hc) (List.lt_irrefl _)
        · exact e
      · rcases List.mem_cons.1 ((h c).2 (List.mem_cons_of_mem _ hc)) with e | e
        · subst e; exact absurd (hy c hc) (List.lt_irrefl _)
        · exact e
theorem Sorted.key {l : List S37} (h : Sorted l) {a b : S37} (ha : a ∈ l) (hb : b ∈ l) (hk : K a = K b) : a = b := by
  induction l with
  | nil => cases ha
  | cons x t ih =>
    obtain ⟨hx, ht⟩ := List.pairwise_cons.1 h
    rcases List.mem_cons.1 ha with e1 | h1 <;> rcases List.mem_cons.1 hb with e2 | h2
    · exact e1.trans e2.symm
    · exact absurd (hx _ h2) (by rw [← hk, e1]; exact List.lt_irrefl _)
    · exact absurd (hx _ h1) (by rw [hk, e2]; exact List.lt_irrefl _)
    · exact ih ht h1 h2
/-- c is what the first of the heads that know its key has. -/
def Has (vs : List S56) (c : S37) : Prop := ∃ h ∈ vs, c ∈ h.f0 ∧ ∀ h' ∈ vs, ∀ c' ∈ h'.f0, K c' = K c → h.f1 ≤ h'.f1
def Will (vs : List S56) (out : List S37) (c : S37) : Prop := c ∈ out ∨ ((∀ d ∈ out, K d ≠ K c) ∧ Has vs c)
structure Inv (vs : List S56) (out : List S37) : Prop where
  sorted : Sorted out
  heads : ∀ h ∈ vs, Sorted h.f0
  above : ∀ c ∈ out, ∀ h ∈ vs, ∀ d ∈ h.f0, ¬ K d < K c
  which : (vs.map (·.f1)).Nodup
theorem Has.perm {vs us : List S56} (h : vs.Perm us) (c : S37) : Has vs c ↔ Has us c := by
  constructor
  · rintro ⟨x, h1, h2, h3⟩
    exact ⟨x, h.mem_iff.1 h1, h2, fun h' hh => h3 h' (h.mem_iff.2 hh)⟩
  · rintro ⟨x, h1, h2, h3⟩
    exact ⟨x, h.mem_iff.2 h1, h2, fun h' hh => h3 h' (h.mem_iff.1 hh)⟩
theorem Will.perm {vs us : List S56} (h : vs.Perm us) (out : List S37) (c : S37) : Will vs out c ↔ Will us out c := by
  unfold Will; rw [Has.perm h]
theorem Inv.perm {vs us : List S56} {out : List S37} (h : vs.Perm us) (hi : Inv vs out) : Inv us out :=
  ⟨hi.sorted, fun x hx => hi.heads x (h.mem_iff.2 hx), fun c hc x hx => hi.above c hc x (h.mem_iff.2 hx), (h.map _).nodup_iff.1 hi.which⟩
theorem Has.drop_nil {x : S56} {t : List S56} (hx : x.f0 = []) (c : S37) : Has (x :: t) c ↔ Has t c := by
  constructor
  · rintro ⟨y, h1, h2, h3⟩
    rcases List.mem_cons.1 h1 with rfl | h1
    · rw [hx] at h2; cases h2
    · exact ⟨y, h1, h2, fun h' hh => h3 h' (List.mem_cons_of_mem _ hh)⟩
  · rintro ⟨y, h1, h2, h3⟩
    refine ⟨y, List.mem_cons_of_mem _ h1, h2, fun h' hh c' hc' he => ?_⟩
    rcases List.mem_cons.1 hh with rfl | hh
    · rw [hx] at hc'; cases hc'
    · exact h3 h' hh c' hc' he
theorem key_le {l : List S37} {c : S37} {r : List S37} (h : Sorted (c :: r)) {d : S37} (hd : d ∈ c :: r) : ¬ K d < K c := by
  rcases List.mem_cons.1 hd with rfl | hd
  · exact List.lt_irrefl _
  · exact fun h1 => List.lt_irrefl _ (List.lt_trans h1 ((List.pairwise_cons.1 h).1 d hd))
theorem not_lt_trans {a b c : List UInt8} (h : ¬ b < a) (k : ¬ c < b) : ¬ c < a := fun h1 => k (by
  by_cases h2 : a < b
  · exact List.lt_trans h1 h2
  · rw [← List.le_antisymm h h2]; exact h1)
/-- What stands in another head stands behind the least head. -/
theorem behind {h y : S56} {c : S37} {r : List S37} (e : h.f0 = c :: r) (hy : Sorted y.f0) (hle : le h y) {d : S37} (hd : d ∈ y.f0) : ¬ K d < K c := by
  cases hl : y.f0 with
  | nil => rw [hl] at hd; cases hd
  | cons q s =>
    rw [hl] at hd hy
    have h1 := key_le hy (l := []) hd
    have e1 : KH h = K c := by unfold KH; rw [e]; rfl
    have e2 : KH y = K q := by unfold KH; rw [hl]; rfl
    have h2 : ¬ K q < K c := by
      rw [le_iff, e1, e2] at hle
      rcases hle with hle | ⟨hle, _⟩
      · exact fun h3 => List.lt_irrefl _ (List.lt_trans hle h3)
      · rw [hle]; exact List.lt_irrefl _
    exact not_lt_trans h2 h1
theorem outL_eq {out : List S37} {c : S37} (hs : Sorted out) (hc : ∀ d ∈ out, ¬ K c < K d) : (outL out c = out ∧ ∃ d ∈ out, K d = K c) ∨ (outL out c = out ++ [c] ∧ ∀ d ∈ out, K d ≠ K c) := by
  unfold outL
  by_cases h0 : out.length = 0
  · rw [if_pos h0]
    exact .inr ⟨rfl, fun d hd => by rw [List.eq_nil_of_length_eq_zero h0] at hd; cases hd⟩
  · rw [if_neg h0]
    have hlt : out.length - 1 < out.length := by omega
    have e : rd_T37 out ((out.length : Int) - 1) = out[out.length - 1] := by
      unfold rd_T37
      rw [show ((out.length : Int) - 1).toNat = out.length - 1 by omega, List.getD_eq_getElem?_getD, List.getElem?_eq_getElem hlt]; rfl
    rw [e]
    by_cases hk : (out[out.length - 1]).f0.toList = c.f0.toList
    · rw [if_pos hk]
      exact .inl ⟨rfl, _, List.getElem_mem hlt, hk⟩
    · rw [if_neg hk]
      refine .inr ⟨rfl, fun d hd he => hk ?_⟩
      obtain ⟨i, hi, rfl⟩ := List.getElem_of_mem hd
      rcases Nat.lt_or_ge i (out.length - 1) with h1 | h1
      · have h2 := List.pairwise_iff_getElem.1 hs i (out.length - 1) hi hlt h1
        have h2' : K out[i] < K out[out.length - 1] := h2
        rw [he] at h2'
        exact absurd h2' (hc _ (List.getElem_mem hlt))
      · have : i = out.length - 1 := by omega
        subst this
        exact he
theorem step_ok {h : S56} {t : List S56} {out : List S37} {c : S37} {r : List S37} (e : h.f0 = c :: r) (hi : Inv (h :: t) out) (hm : ∀ y ∈ t, le h y) (hne : ∀ y ∈ t, y.f0 ≠ []) :
    Inv (⟨r, h.f1⟩ :: t) (outL out c) ∧ ∀ x, Will (⟨r, h.f1⟩ :: t) (outL out c) x ↔ Will (h :: t) out x := by
  have hsr : Sorted (c :: r) := by have := hi.heads h (by simp); rw [e] at this; exact this
  have hcr := List.pairwise_cons.1 hsr
  have hoc : ∀ d ∈ out, ¬ K c < K d := fun d hd => hi.above d hd h (by simp) c (by rw [e]; simp)
  have hbe : ∀ y ∈ t, ∀ d ∈ y.f0, ¬ K d < K c := fun y hy d hd => behind e (hi.heads y (List.mem_cons_of_mem _ hy)) (hm y hy) hd
  -- of another key
  have hoth : ∀ x, K x ≠ K c → (Has (⟨r, h.f1⟩ :: t) x ↔ Has (h :: t) x) := by
    intro x hx
    constructor
    · rintro ⟨y, h1, h2, h3⟩
      have h3' : ∀ h' ∈ h :: t, ∀ c' ∈ h'.f0, K c' = K x → y.f1 ≤ h'.f1 := by
        intro h' hh c' hc' he
        rcases List.mem_cons.1 hh with rfl | hh
        · rw [e] at hc'
          rcases List.mem_cons.1 hc' with rfl | hc'
          · exact absurd he.symm hx
          · exact h3 ⟨r, h'.f1⟩ (by simp) c' hc' he
        · exact h3 h' (List.mem_cons_of_mem _ hh) c' hc' he
      rcases List.mem_cons.1 h1 with rfl | h1
      · exact ⟨h, by simp, by rw [e]; exact List.mem_cons_of_mem _ h2, h3'⟩
      · exact ⟨y, List.mem_cons_of_mem _ h1, h2, h3'⟩
    · rintro ⟨y, h1, h2, h3⟩
      have h3' : ∀ h' ∈ (⟨r, h.f1⟩ : S56) :: t, ∀ c' ∈ h'.f0, K c' = K x → y.f1 ≤ h'.f1 := by
        intro h' hh c' hc' he
        rcases List.mem_cons.1 hh with rfl | hh
        · exact h3 h (by simp) c' (by rw [e]; exact List.mem_cons_of_mem _ hc') he
        · exact h3 h' (List.mem_cons_of_mem _ hh) c' hc' he
      rcases List.mem_cons.1 h1 with rfl | h1
      · rw [e] at h2
        rcases List.mem_cons.1 h2 with rfl | h2
        · exact absurd rfl hx
        · exact ⟨⟨r, y.f1⟩, by simp, h2, h3'⟩
      · exact ⟨y, List.mem_cons_of_mem _ h1, h2, h3'⟩
  -- of this key
  have hthis : ∀ x, K x = K c → (Has (h :: t) x ↔ x = c) := by
    intro x hx
    have hmin : ∀ h' ∈ h :: t, ∀ c' ∈ h'.f0, K c' = K c → h.f1 ≤ h'.f1 := by
      intro h' hh c' hc' he
      rcases List.mem_cons.1 hh with rfl | hh
      · exact Int.le_refl _
      · have h1 := hm h' hh
        rw [le_iff] at h1
        have e1 : KH h = K c := by unfold KH; rw [e]; rfl
        rcases h1 with h1 | ⟨_, h1⟩
        · exfalso
          cases hl : h'.f0 with
          | nil => exact hne h' hh hl
          | cons q s =>
            have e2 : KH h' = K q := by unfold KH; rw [hl]; rfl
            rw [e1, e2] at h1
            have hs' := hi.heads h' (List.mem_cons_of_mem _ hh)
            rw [hl] at hc' hs'
            have := key_le hs' (l := []) hc'
            rw [he] at this
            exact this h1
        · exact h1
    constructor
    · rintro ⟨y, h1, h2, h3⟩
      have h4 := h3 h (by simp) c (by rw [e]; simp) hx.symm
      have h5 := hmin y h1 x h2 hx
      have h6 : y = h := by
        rcases List.mem_cons.1 h1 with rfl | h1
        · rfl
        · exfalso
          have hn := hi.which
          rw [List.map_cons, List.nodup_cons] at hn
          exact hn.1 (List.mem_map.2 ⟨y, h1, by omega⟩)
      subst h6
      exact (hi.heads y (by simp)).key h2 (by rw [e]; simp) hx
    · rintro rfl
      exact ⟨h, by simp, by rw [e]; simp, hmin⟩
  have habove : ∀ h' ∈ (⟨r, h.f1⟩ : S56) :: t, ∀ d ∈ h'.f0, ¬ K d < K c := by
    intro h' hh d hd
    rcases List.mem_cons.1 hh with rfl | hh
    · exact fun h1 => List.lt_irrefl _ (List.lt_trans h1 (hcr.1 d hd))
    · exact hbe h' hh d hd
  have hheads : ∀ h' ∈ (⟨r, h.f1⟩ : S56) :: t, Sorted h'.f0 := by
    intro h' hh
    rcases List.mem_cons.1 hh with rfl | hh
    · exact hcr.2
    · exact hi.heads h' (List.mem_cons_of_mem _ hh)
  have habove2 : ∀ a ∈ out, ∀ h' ∈ (⟨r, h.f1⟩ : S56) :: t, ∀ d ∈ h'.f0, ¬ K d < K a := by
    intro a ha h' hh d hd
    rcases List.mem_cons.1 hh with rfl | hh
    · exact hi.above a ha h (by simp) d (by rw [e]; exact List.mem_cons_of_mem _ hd)
    · exact hi.above a ha h' (List.mem_cons_of_mem _ hh) d hd
  rcases outL_eq hi.sorted hoc with ⟨ho, d, hd, hdk⟩ | ⟨ho, hd⟩
  · rw [ho]
    refine ⟨⟨hi.sorted, hheads, habove2, hi.which⟩, fun x => ?_⟩
    unfold Will
    by_cases hx : K x = K c
    · constructor
      · rintro (h1 | ⟨h1, _⟩)
        · exact .inl h1
        · exact absurd (hdk.trans hx.symm) (h1 d hd)
      · rintro (h1 | ⟨h1, _⟩)
        · exact .inl h1
        · exact absurd (hdk.trans hx.symm) (h1 d hd)
    · rw [hoth x hx]
  · rw [ho]
    refine ⟨⟨?_, hheads, ?_, hi.which⟩, fun x => ?_⟩
    · refine List.pairwise_append.2 ⟨hi.sorted, List.pairwise_singleton _ _, fun a ha b hb => ?_⟩
      rw [List.mem_singleton.1 hb]
      by_cases h1 : K a < K c
      · exact h1
      · exact absurd (List.le_antisymm (hoc a ha) h1) (hd a ha)
    · intro a ha h' hh d hd'
      rcases List.mem_append.1 ha with ha | ha
      · exact habove2 a ha h' hh d hd'
      · rw [List.mem_singleton.1 ha]; exact habove h' hh d hd'
    · unfold Will
      by_cases hx : K x = K c
      · rw [hthis x hx]
        constructor
        · rintro (h1 | ⟨h1, _⟩)
          · rcases List.mem_append.1 h1 with h1 | h1
            · exact .inl h1
            · exact .inr ⟨fun a ha he => hd a ha (he.trans hx), List.mem_singleton.1 h1⟩
          · exact absurd hx.symm (h1 c (by simp))
        · rintro (h1 | ⟨_, h1⟩)
          · exact .inl (List.mem_append_left _ h1)
          · exact .inl (by rw [h1]; simp)
      · rw [hoth x hx]
        constructor
        · rintro (h1 | ⟨h1, h2⟩)
          · rcases List.mem_append.1 h1 with h1 | h1
            · exact .inl h1
            · exact absurd (by rw [List.mem_singleton.1 h1]) hx
          · exact .inr ⟨fun a ha => h1 a (List.mem_append_left _ ha), h2⟩
        · rintro (h1 | ⟨h1, h2⟩)
          · exact .inl (List.mem_append_left _ h1)
          · refine .inr ⟨fun a ha => ?_, h2⟩
            rcases List.mem_append.1 ha with ha | ha
            · exact h1 a ha
            · rw [List.mem_singleton.1 ha]; exact fun he => hx he.symm
def total (vs : List S56) : Nat := (vs.map (·.f0.length)).sum
theorem total_perm {vs us : List S56} (h : vs.Perm us) : total vs = total us := (h.map _).sum_nat
theorem merge_l : ∀ (m : Nat) (vs : List S56) (out : List S37), total vs ≤ m → Inv vs out → (∀ y ∈ vs, y.f0 ≠ []) → Heaped vs 0 vs.length → out.length + total vs < 1000000 →
    ∃ r, Ev (fun k => mergeL k vs out) r ∧ Sorted r ∧ ∀ c, c ∈ r ↔ Will vs out c
  | m, [], out, _, hi, _, _, _ => by
    refine ⟨out, ?_, hi.sorted, fun c => ⟨fun h => .inl h, ?_⟩⟩
    · refine Ev.step (fun _ => mergeL.eq_2 ..) ?_
      simp only [List.length_nil, if_true]; exact Ev.now _
    · rintro (h | ⟨_, x, hx, _⟩)
      · exact h
      · cases hx
  | 0, h :: t, out, ht, hi, hne, _, _ => by
    have h1 := List.length_pos_iff.2 (hne h (by simp))
    simp only [total, List.map_cons, List.sum_cons] at ht
    omega
  | m + 1, h :: t, out, ht, hi, hne, hh, hl => by
    cases e : h.f0 with
    | nil => exact absurd e (hne h (by simp))
    | cons c r =>
      have hroot := root_least (h :: t) _ hh
      have hm : ∀ y ∈ t, le h y := by
        intro y hy
        obtain ⟨i, hi', rfl⟩ := List.getElem_of_mem hy
        have := hroot (i + 1) (by simp; omega)
        have e1 : at_ (h :: t) (i + 1) = t[i] := by
          unfold at_; rw [List.getD_eq_getElem?_getD, List.getElem?_cons_succ, List.getElem?_eq_getElem hi']; rfl
        rw [e1] at this
        exact this
      have hst := step_ok e hi hm (fun y hy => hne y (List.mem_cons_of_mem _ hy))
      have e0 : at_ (h :: t) 0 = h := rfl
      have ec : rd_T37 h.f0 0 = c := by rw [e]; rfl
      have hol : (outL out c).length ≤ out.length + 1 := by
        unfold outL
        split
        · simp
        · split <;> simp
      have htot : total (h :: t) = r.length + 1 + total t := by simp [total, e]
      have hn0 : ¬ (h :: t).length = 0 := by simp
      cases hr : r with
      | nil =>
        obtain ⟨⟨us, i'⟩, hd, hp0, hk0⟩ := pop_ok h ⟨h.f0.drop 1, h.f1⟩ t hh
        have hp : (us.take ((h :: t).length - 1)).Perm t := hp0
        have hk : Heaped (us.take ((h :: t).length - 1)) 0 (us.take ((h :: t).length - 1)).length := hk0
        have hw : ∀ x, Will t (outL out c) x ↔ Will (h :: t) out x := fun x => by
          rw [← hst.2 x]
          unfold Will
          rw [Has.drop_nil (x := ⟨r, h.f1⟩) hr]
        have hit : Inv t (outL out c) := ⟨hst.1.sorted, fun y hy => hst.1.heads y (List.mem_cons_of_mem _ hy), fun a ha y hy => hst.1.above a ha y (List.mem_cons_of_mem _ hy), by have := hst.1.which; rw [List.map_cons, List.nodup_cons] at this; exact this.2⟩
        obtain ⟨res, h1, h2, h3⟩ := merge_l m (us.take ((h :: t).length - 1)) (outL out c) (by rw [total_perm hp]; omega) (hit.perm hp.symm) (fun y hy => hne y (List.mem_cons_of_mem _ (hp.mem_iff.1 hy))) hk (by rw [total_perm hp]; omega)
        refine ⟨res, ?_, h2, fun x => ?_⟩
        · refine Ev.step (fun _ => mergeL.eq_2 ..) ?_
          simp only [if_neg hn0, if_pos (show out.length < 1000000 by omega), e0, ec]
          simp only [if_neg (show ¬ 1 < h.f0.length by rw [e, hr]; simp), hd, Option.bind_some]
          exact h1
        · rw [h3, Will.perm hp, hw]
      | cons c2 r2 =>
        obtain ⟨⟨us, i'⟩, hd, hp0, hk0⟩ := fix_ok h ⟨h.f0.drop 1, h.f1⟩ t hh
        have hp : us.Perm (⟨h.f0.drop 1, h.f1⟩ :: t) := hp0
        have hk : Heaped us 0 us.length := hk0
        have ed : (⟨h.f0.drop 1, h.f1⟩ : S56) = ⟨r, h.f1⟩ := by rw [e]; rfl
        have hp' : us.Perm (⟨r, h.f1⟩ :: t) := by rw [← ed]; exact hp
        have htr : total (⟨r, h.f1⟩ :: t) = r.length + total t := by simp [total]
        obtain ⟨res, h1, h2, h3⟩ := merge_l m us (outL out c) (by rw [total_perm hp', htr]; omega) (hst.1.perm hp'.symm) (fun y hy => by
          rcases List.mem_cons.1 (hp'.mem_iff.1 hy) with rfl | hy
          · rw [hr]; simp
          · exact hne y (List.mem_cons_of_mem _ hy)) hk (by rw [total_perm hp', htr]; omega)
        refine ⟨res, ?_, h2, fun x => ?_⟩
        · refine Ev.step (fun _ => mergeL.eq_2 ..) ?_
          simp only [if_neg hn0, if_pos (show out.length < 1000000 by omega), e0, ec]
          simp only [if_pos (show 1 < h.f0.length by rw [e, hr]; simp), hd, Option.bind_some]
          exact h1
        · rw [h3, Will.perm hp', hst.2]
end Go.Proofs.Ytkkfkccfnfjbiaa.Rb
namespace Go.Proofs.Ytkkfkccfnfjbiaa.Rc
open Go.RowKit Go.Proofs.Ytkkfkccfnfjbiaa.PGr Go.Proofs.YtkkfkccfnfjbiaaW.PrintWords Go.Proofs.YtkkfkccfnfjbiaaW.PrintLast Go.Proofs.Ytkkfkccfnfjbiaa.Ht Go.Proofs.Ytkkfkccfnfjbiaa.Hu Go.Proofs.Ytkkfkccfnfjbiaa.Hv Go.Proofs.Ytkkfkccfnfjbiaa.Hw Go.Proofs.Ytkkfkccfnfjbiaa.Ra Go.Proofs.Ytkkfkccfnfjbiaa.Rb
set_option linter.unusedSimpArgs false
set_option linter.unusedVariables false
theorem w64 {x : Int} (h0 : -9223372036854775808 ≤ x) (h1 : x < 9223372036854775808) : wrap64 x = x := Go.IntWalk.wrap64_in _ (by omega)
theorem rd_get (l : List S37) (i : Nat) (h : i < l.length) : rd_T37 l (i : Int) = l[i] := by
  unfold rd_T37
  rw [Int.toNat_natCast, List.getD_eq_getElem?_getD, List.getElem?_eq_getElem h]; rfl
theorem up1 {i : Nat} (h : i < 9223372036854775807) : wrap64 ((i : Int) + 1) = ((i + 1 : Nat) : Int) := by rw [w64 (by omega) (by omega)]; omega
def tidyB (c : S37) : Bool := !c.f2 || decide (c.f1.toList = [])
def chainB : Option (List UInt8) → List S37 → Bool
  | _, [] => true
  | none, c :: t => tidyB c && chainB (some (K c)) t
  | some q, c :: t => decide (q < K c) && (tidyB c && chainB (some (K c)) t)
def rightB (l : List S37) : Bool := chainB none l
def prev (l : List S37) : Nat → Option (List UInt8)
  | 0 => none
  | i + 1 => some (K (rd_T37 l (i : Int)))
theorem right_l0 (l : List S37) (hl : l.length < 9223372036854775807) : ∀ (m i : Nat), i + m = l.length → Ev (fun k => run_Right.l0 k l l (l.length : Int) (i : Int)) (chainB (prev l i) (l.drop i))
  | 0, i, h => by
    refine Ev.step (fun _ => run_Right.l0.eq_2 ..) ?_
    rw [List.drop_eq_nil_of_le (by omega)]
    simp only [if_neg (show ¬ (i : Int) < (l.length : Int) by omega)]
    cases prev l i <;> exact Ev.now _
  | m + 1, i, h => by
    have hi : i < l.length := by omega
    refine Ev.step (fun _ => run_Right.l0.eq_2 ..) ?_
    simp only [if_pos (show (i : Int) < (l.length : Int) by omega), if_pos (show (0 : Int) ≤ (i : Int) by omega), rd_get l i hi]
    have ih := right_l0 l hl m (i + 1) (by omega)
    rw [List.drop_eq_getElem_cons hi]
    have hp : prev l (i + 1) = some (K l[i]) := by show some _ = _; rw [rd_get l i hi]
    rw [hp] at ih
    rw [up1 (by omega)]
    have hrest : Ev (fun n => if l[i].f2 = true then (if (l[i].f1).toList = ([] : List UInt8) then run_Right.l0 n l l (l.length : Int) ((i + 1 : Nat) : Int) else some false) else run_Right.l0 n l l (l.length : Int) ((i + 1 : Nat) : Int)) (tidyB l[i] && chainB (some (K l[i])) (l.drop (i + 1))) := by
      unfold tidyB
      by_cases h1 : l[i].f2 = true
      · simp only [if_pos h1]
        by_cases h2 : (l[i].f1).toList = []
        · simp only [if_pos h2, h1, h2, decide_true, Bool.or_true, Bool.true_and]; exact ih
        · simp only [if_neg h2, h1, h2, decide_false, Bool.not_true, Bool.or_false, Bool.false_and]; exact Ev.now _
      · simp only [if_neg h1]
        rw [show l[i].f2 = false by simpa using h1]
        simp only [Bool.not_false, Bool.true_or, Bool.true_and]; exact ih
    cases i with
    | zero =>
      simp only [if_neg (show ¬ ((0 : Nat) : Int) > 0 by omega)]
      exact hrest
    | succ j =>
      simp only [if_pos (show ((j + 1 : Nat) : Int) > 0 by omega)]
      have hw : wrap64 (((j + 1 : Nat) : Int) - 1) = (j : Int) := by rw [w64 (by omega) (by omega)]; omega
      simp only [hw, if_pos (show (0 : Int) ≤ (j : Int) by omega), if_pos (show (j : Int) < (l.length : Int) by omega)]
      show Ev _ (decide (K (rd_T37 l (j : Int)) < K l[j + 1]) && _)
      rw [bl_eq]
      by_cases h3 : K (rd_T37 l (j : Int)) < K l[j + 1]
      · have h3' : decide ((rd_T37 l (j : Int)).f0.toList < l[j + 1].f0.toList) = true := decide_eq_true h3
        simp only [h3', if_true, h3, decide_true, Bool.true_and]
        exact hrest
      · have h3' : decide ((rd_T37 l (j : Int)).f0.toList < l[j + 1].f0.toList) = false := decide_eq_false h3
        simp only [h3', Bool.false_eq_true, if_false, h3, decide_false, Bool.false_and]
        exact Ev.now _
theorem right_ev (l : List S37) (hl : l.length < 9223372036854775807) : Ev (fun k => run_Right.f k l) (rightB l) := by
  unfold run_Right.f
  exact right_l0 l hl l.length 0 (by omega)
theorem chain_iff : ∀ (l : List S37) (q : Option (List UInt8)), chainB q l = true ↔ (∀ a, q = some a → ∀ c ∈ l, a < K c) ∧ Sorted l ∧ ∀ c ∈ l, tidyB c = true
  | [], q => by
    cases q <;> simp [chainB, Sorted]
  | c :: t, q => by
    have ih := chain_iff t (some (K c))
    have hs : Sorted (c :: t) ↔ (∀ d ∈ t, K c < K d) ∧ Sorted t := List.pairwise_cons
    cases q with
    | none =>
      simp only [chainB, Bool.and_eq_true, ih, hs, List.forall_mem_cons]
      constructor
      · rintro ⟨h1, h2, h3, h4⟩
        exact ⟨(fun a ha => by cases ha), ⟨h2 _ rfl, h3⟩, h1, h4⟩
      · rintro ⟨_, ⟨h2, h3⟩, h1, h4⟩
        exact ⟨h1, (fun a ha d hd => by cases ha; exact h2 d hd), h3, h4⟩
    | some a =>
      simp only [chainB, Bool.and_eq_true, ih, hs, decide_eq_true_eq, List.forall_mem_cons]
      constructor
      · rintro ⟨h0, h1, h2, h3, h4⟩
        exact ⟨(fun b hb => by cases hb; exact ⟨h0, fun d hd => List.lt_trans h0 (h2 _ rfl d hd)⟩), ⟨h2 _ rfl, h3⟩, h1, h4⟩
      · rintro ⟨h0, ⟨h2, h3⟩, h1, h4⟩
        exact ⟨(h0 a rfl).1, h1, (fun b hb d hd => by cases hb; exact h2 d hd), h3, h4⟩
theorem right_iff (l : List S37) : rightB l = true ↔ Sorted l ∧ ∀ c ∈ l, tidyB c = true := by
  unfold rightB
  rw [chain_iff]
  exact ⟨fun h => h.2, fun h => ⟨(fun a ha => by cases ha), h⟩⟩
theorem rightL_ev : ∀ ls : List (List S37), (∀ l ∈ ls, l.length < 9223372036854775807) → Ev (fun k => rightL k ls) (ls.all rightB)
  | [], _ => Ev.now _
  | l :: t, h => by
    have ih := rightL_ev t (fun x hx => h x (List.mem_cons_of_mem _ hx))
    show Ev (fun k => (run_Right.f k l).bind fun b => if b = true then rightL k t else some false) _
    refine Ev.bind (right_ev l (h l (by simp))) ?_
    rw [List.all_cons]
    cases rightB l with
    | true => simp only [if_true, Bool.true_and]; exact ih
    | false => simp only [Bool.false_eq_true, if_false, Bool.false_and]; exact Ev.now _
def putL : List S37 → S37 → List S37
  | [], c => [c]
  | x :: t, c => if K x < K c then x :: putL t c else if K x = K c then c :: t else c :: x :: t
def norm (c : S37) : S37 := if c.f2 = true then ⟨c.f0, ⟨#[]⟩, c.f2⟩ else c
theorem norm_key (c : S37) : K (norm c) = K c := by unfold norm; split <;> rfl
theorem nil_of_toList {b : ByteArray} (h : b.toList = []) : b = ⟨#[]⟩ := by
  have h2 : b.data.toList = [] := by rw [← ByteArray.toList_eq]; exact h
  cases b with
  | mk d => cases d with
    | mk l => simp at h2; subst h2; rfl
theorem norm_tidy {c : S37} (h : tidyB c = true) : norm c = c := by
  unfold norm
  split
  · rename_i h1
    unfold tidyB at h
    rw [h1] at h
    have h2 : c.f1.toList = [] := by simpa using h
    obtain ⟨a, b, g⟩ := c
    have h3 : b = ⟨#[]⟩ := nil_of_toList h2
    rw [h3]
  · rfl
theorem putL_len (c : S37) : ∀ l, (putL l c).length ≤ l.length + 1
  | [] => by simp [putL]
  | x :: t => by
    have := putL_len c t
    simp only [putL]
    split
    · simp only [List.length_cons]; omega
    · split <;> simp
theorem put_l0 (l : List S37) (a b : ByteArray) (g : Bool) (hl : l.length < 3518437208000) : ∀ (m i : Nat), i + m = l.length → Ev (fun k => shelfmarkref09_put.l0 k l (l.take i) (i : Int) a b g) (l.take i ++ putL (l.drop i) ⟨a, b, g⟩)
  | 0, i, h => by
    have hlt : (l.take i).length = i := by rw [List.length_take]; omega
    have hdn : l.drop i = [] := List.drop_eq_nil_of_le (by omega)
    have q5 : (l.take i ++ [(⟨a, b, g⟩ : S37)]).length + (l.drop ((i : Int)).toNat).length < 3518437208883 := by rw [List.length_append, hlt, List.length_drop]; simp only [List.length_cons, List.length_nil]; omega
    refine Ev.step (fun _ => shelfmarkref09_put.l0.eq_2 ..) (Ev.congr (fun k => ?_) (Ev.now _))
    rw [if_neg (show ¬ (i : Int) < (l.length : Int) by omega), if_pos (show (l.take i).length < 3518437208883 by omega), Option.bind_some, if_pos (show (0 : Int) ≤ (i : Int) by omega), if_pos (show (i : Int) ≤ (l.length : Int) by omega), Option.bind_some, if_pos q5, Int.toNat_natCast, hdn, List.append_nil]
    rfl
  | m + 1, i, h => by
    have hi : i < l.length := by omega
    have hlt : (l.take i).length = i := by rw [List.length_take]; omega
    have ih := put_l0 l a b g hl m (i + 1) (by omega)
    have e : l.drop i = l[i] :: l.drop (i + 1) := List.drop_eq_getElem_cons hi
    have et : l.take (i + 1) = l.take i ++ [l[i]] := List.take_succ_eq_append_getElem hi
    have hup := up1 (show i < 9223372036854775807 by omega)
    have hg := rd_get l i hi
    by_cases h1 : K l[i] < K (⟨a, b, g⟩ : S37)
    · have h1' : Op.bytesLess l[i].f0.toList a.toList = true := by rw [bl_eq]; exact decide_eq_true h1
      rw [et, List.append_assoc] at ih
      rw [e, putL, if_pos h1]
      refine Ev.step (fun _ => shelfmarkref09_put.l0.eq_2 ..) (Ev.congr (fun k => ?_) ih)
      rw [if_pos (show (i : Int) < (l.length : Int) by omega), if_pos (show (0 : Int) ≤ (i : Int) by omega), hg, if_pos h1', if_pos (show (l.take i).length < 3518437208883 by omega), hup]
    · have h1' : ¬ Op.bytesLess l[i].f0.toList a.toList = true := by rw [bl_eq]; exact fun h5 => h1 (of_decide_eq_true h5)
      rw [e, putL, if_neg h1]
      refine Ev.step (fun _ => shelfmarkref09_put.l0.eq_2 ..) (Ev.congr (fun k => ?_) (Ev.now _))
      rw [if_pos (show (i : Int) < (l.length : Int) by omega), if_pos (show (0 : Int) ≤ (i : Int) by omega), hg, if_neg h1', if_pos (show (l.take i).length < 3518437208883 by omega), Option.bind_some]
      by_cases h2 : K l[i] = K (⟨a, b, g⟩ : S37)
      · have q7 : (l.take i ++ [(⟨a, b, g⟩ : S37)]).length + (l.drop (((i + 1 : Nat) : Int)).toNat).length < 3518437208883 := by rw [List.length_append, hlt, List.length_drop]; simp only [List.length_cons, List.length_nil]; omega
        rw [if_pos h2, if_pos (show l[i].f0.toList = a.toList from h2), hup, if_pos (show (0 : Int) ≤ ((i + 1 : Nat) : Int) by omega), if_pos (show ((i + 1 : Nat) : Int) ≤ (l.length : Int) by omega), Option.bind_some, if_pos q7, Int.toNat_natCast, List.append_assoc]
        rfl
      · have q7 : (l.take i ++ [(⟨a, b, g⟩ : S37)]).length + (l.drop ((i : Int)).toNat).length < 3518437208883 := by rw [List.length_append, hlt, List.length_drop]; simp only [List.length_cons, List.length_nil]; omega
        rw [if_neg h2, if_neg (show ¬ l[i].f0.toList = a.toList from h2), if_pos (show (i : Int) ≤ (l.length : Int) by omega), Option.bind_some, if_pos q7, Int.toNat_natCast, e, List.append_assoc]
        rfl
theorem put_ev (l : List S37) (c : S37) (hl : l.length < 3518437208000) : Ev (fun k => shelfmarkref09_put.f k l c.f0 c.f1 c.f2) (putL l (norm c)) := by
  unfold shelfmarkref09_put.f norm
  by_cases h : c.f2 = true
  · simp only [if_pos h]
    refine Ev.step (fun _ => shelfmarkref09_put.j0.eq_2 ..) ?_
    exact put_l0 l c.f0 ⟨#[]⟩ c.f2 hl l.length 0 (by omega)
  · simp only [if_neg h]
    refine Ev.step (fun _ => shelfmarkref09_put.j0.eq_2 ..) ?_
    exact put_l0 l c.f0 c.f1 c.f2 hl l.length 0 (by omega)
/-- One change after the other. -/
def putsL (out l : List S37) : List S37 := l.foldl (fun o c => putL o (norm c)) out
theorem putAll_len : ∀ (l out : List S37), (putsL out l).length ≤ out.length + l.length
  | [], out => Nat.le_refl _
  | c :: t, out => by
    have := putAll_len t (putL out (norm c))
    have h2 := putL_len (norm c) out
    show (putsL (putL out (norm c)) t).length ≤ _
    rw [List.length_cons]
    omega
theorem make_l0 (l : List S37) (hll : l.length < 9223372036854775807) : ∀ (m i : Nat) (out : List S37), i + m = l.length → out.length + m < 3518437208000 → Ev (fun k => shelfmarkref09_Make.l0 k l out (i : Int)) (putsL out (l.drop i))
  | 0, i, out, h, hl => by
    refine Ev.step (fun _ => shelfmarkref09_Make.l0.eq_2 ..) ?_
    rw [List.drop_eq_nil_of_le (by omega)]
    simp only [if_neg (show ¬ (i : Int) < (l.length : Int) by omega)]
    exact Ev.now _
  | m + 1, i, out, h, hl => by
    have hi : i < l.length := by omega
    refine Ev.step (fun _ => shelfmarkref09_Make.l0.eq_2 ..) ?_
    simp only [if_pos (show (i : Int) < (l.length : Int) by omega), if_pos (show (0 : Int) ≤ (i : Int) by omega), rd_get l i hi]
    refine Ev.bind (put_ev out l[i] (by omega)) ?_
    rw [List.drop_eq_getElem_cons hi, up1 (by omega)]
    exact make_l0 l hll m (i + 1) _ (by omega) (by have := putL_len (norm l[i]) out; omega)
theorem make_ev (l : List S37) (hl : l.length < 3518437208000) : Ev (fun k => shelfmarkref09_Make.f k l) (putsL [] l) := by
  unfold shelfmarkref09_Make.f
  exact make_l0 l (by omega) l.length 0 [] (by omega) (by simpa using hl)
end Go.Proofs.Ytkkfkccfnfjbiaa.Rc
namespace Go.Proofs.Ytkkfkccfnfjbiaa.Rd
open Go.RowKit Go.Proofs.Ytkkfkccfnfjbiaa.PGr Go.Proofs.YtkkfkccfnfjbiaaW.PrintWords Go.Proofs.YtkkfkccfnfjbiaaW.PrintLast Go.Proofs.Ytkkfkccfnfjbiaa.Ht Go.Proofs.Ytkkfkccfnfjbiaa.Hu Go.Proofs.Ytkkfkccfnfjbiaa.Hv Go.Proofs.Ytkkfkccfnfjbiaa.Hw Go.Proofs.Ytkkfkccfnfjbiaa.Ra Go.Proofs.Ytkkfkccfnfjbiaa.Rb Go.Proofs.Ytkkfkccfnfjbiaa.Rc
set_option linter.unusedSimpArgs false
set_option linter.unusedVariables false
theorem mem_putL {c x : S37} : ∀ {l : List S37}, Sorted l → (x ∈ putL l c ↔ x = c ∨ (x ∈ l ∧ K x ≠ K c))
  | [], _ => by simp [putL]
  | y :: t, h => by
    obtain ⟨h1, h2⟩ := List.pairwise_cons.1 h
    have ih := mem_putL (c := c) (x := x) h2
    rw [putL]
    by_cases a : K y < K c
    · rw [if_pos a, List.mem_cons, ih, List.mem_cons]
      constructor
      · rintro (rfl | rfl | ⟨h3, h4⟩)
        · exact .inr ⟨.inl rfl, fun e => by rw [e] at a; exact List.lt_irrefl _ a⟩
        · exact .inl rfl
        · exact .inr ⟨.inr h3, h4⟩
      · rintro (rfl | ⟨rfl | h3, h4⟩)
        · exact .inr (.inl rfl)
        · exact .inl rfl
        · exact .inr (.inr ⟨h3, h4⟩)
    · rw [if_neg a]
      by_cases b : K y = K c
      · rw [if_pos b, List.mem_cons, List.mem_cons]
        constructor
        · rintro (rfl | h3)
          · exact .inl rfl
          · exact .inr ⟨.inr h3, fun e => by have := h1 x h3; rw [b, e] at this; exact List.lt_irrefl _ this⟩
        · rintro (rfl | ⟨rfl | h3, h4⟩)
          · exact .inl rfl
          · exact absurd b h4
          · exact .inr h3
      · rw [if_neg b, List.mem_cons, List.mem_cons]
        have hcy : K c < K y := by
          by_cases e : K c < K y
          · exact e
          · exact absurd (List.le_antisymm e a) b
        constructor
        · rintro (rfl | rfl | h3)
          · exact .inl rfl
          · exact .inr ⟨.inl rfl, b⟩
          · exact .inr ⟨.inr h3, fun e => by have := h1 x h3; rw [e] at this; exact List.lt_irrefl _ (List.lt_trans this hcy)⟩
        · rintro (rfl | ⟨h3, h4⟩)
          · exact .inl rfl
          · exact .inr h3
theorem sorted_putL (c : S37) : ∀ {l : List S37}, Sorted l → Sorted (putL l c)
  | [], _ => List.pairwise_singleton _ _
  | y :: t, h => by
    obtain ⟨h1, h2⟩ := List.pairwise_cons.1 h
    rw [putL]
    by_cases a : K y < K c
    · rw [if_pos a]
      refine List.pairwise_cons.2 ⟨fun d hd => ?_, sorted_putL c h2⟩
      rcases (mem_putL h2).1 hd with rfl | ⟨h3, _⟩
      · exact a
      · exact h1 d h3
    · rw [if_neg a]
      by_cases b : K y = K c
      · rw [if_pos b]
        exact List.pairwise_cons.2 ⟨fun d hd => by rw [← b]; exact h1 d hd, h2⟩
      · rw [if_neg b]
        have hcy : K c < K y := by
          by_cases e : K c < K y
          · exact e
          · exact absurd (List.le_antisymm e a) b
        refine List.pairwise_cons.2 ⟨fun d hd => ?_, h⟩
        rcases List.mem_cons.1 hd with rfl | h3
        · exact hcy
        · exact List.lt_trans hcy (h1 d h3)
theorem sorted_putAll : ∀ (l out : List S37), Sorted out → Sorted (putsL out l)
  | [], out, h => h
  | c :: t, out, h => sorted_putAll t _ (sorted_putL (norm c) h)
theorem mem_putAll {x : S37} : ∀ (l out : List S37), Sorted out → Sorted l → (∀ c ∈ l, tidyB c = true) → (x ∈ putsL out l ↔ x ∈ l ∨ (x ∈ out ∧ ∀ d ∈ l, K d ≠ K x))
  | [], out, _, _, _ => by simp [putsL]
  | c :: t, out, ho, hl, ht => by
    obtain ⟨h1, h2⟩ := List.pairwise_cons.1 hl
    have ih := mem_putAll (x := x) t (putL out (norm c)) (sorted_putL _ ho) h2 (fun d hd => ht d (List.mem_cons_of_mem _ hd))
    show x ∈ putsL (putL out (norm c)) t ↔ _
    rw [norm_tidy (ht c (by simp))] at ih ⊢
    rw [ih, mem_putL ho, List.mem_cons, List.forall_mem_cons]
    constructor
    · rintro (h3 | ⟨rfl | ⟨h3, h4⟩, h5⟩)
      · exact .inl (.inr h3)
      · exact .inl (.inl rfl)
      · exact .inr ⟨h3, fun e => h4 e.symm, h5⟩
    · rintro ((rfl | h3) | ⟨h3, h4, h5⟩)
      · exact .inr ⟨.inl rfl, fun d hd e => by have := h1 d hd; rw [e] at this; exact List.lt_irrefl _ this⟩
      · exact .inl h3
      · exact .inr ⟨.inr ⟨h3, fun e => h4 e.symm⟩, h5⟩
/-- What the first of the lists that know its key has. -/
def FirstC : List (List S37) → S37 → Prop
  | [], _ => False
  | l :: t, c => c ∈ l ∨ ((∀ d ∈ l, K d ≠ K c) ∧ FirstC t c)
def refFold (ls : List (List S37)) (out : List S37) : List S37 := ls.foldr (fun l o => putsL o l) out
theorem sorted_refFold : ∀ (ls : List (List S37)) (out : List S37), Sorted out → Sorted (refFold ls out)
  | [], out, h => h
  | l :: t, out, h => sorted_putAll l _ (sorted_refFold t out h)
theorem mem_refFold {c : S37} : ∀ ls : List (List S37), (∀ l ∈ ls, rightB l = true) → (c ∈ refFold ls [] ↔ FirstC ls c)
  | [], _ => by simp [refFold, FirstC]
  | l :: t, h => by
    have ih := mem_refFold (c := c) t (fun x hx => h x (List.mem_cons_of_mem _ hx))
    have hr := (right_iff l).1 (h l (by simp))
    show c ∈ putsL (refFold t []) l ↔ _
    rw [mem_putAll l _ (sorted_refFold t [] List.Pairwise.nil) hr.1 hr.2, ih, FirstC]
    exact or_congr Iff.rfl and_comm
theorem headsL_which : ∀ (ls : List (List S37)) (i : Nat), ∀ x ∈ headsL ls i, (i : Int) ≤ x.f1
  | [], i, x, h => by simp [headsL] at h
  | l :: t, i, x, h => by
    simp only [headsL] at h
    split at h
    · have := headsL_which t (i + 1) x h; omega
    · rcases List.mem_cons.1 h with rfl | h
      · exact Int.le_refl _
      · have := headsL_which t (i + 1) x h; omega
theorem headsL_nodup : ∀ (ls : List (List S37)) (i : Nat), ((headsL ls i).map (·.f1)).Nodup
  | [], i => List.nodup_nil
  | l :: t, i => by
    simp only [headsL]
    split
    · exact headsL_nodup t (i + 1)
    · rw [List.map_cons, List.nodup_cons]
      refine ⟨fun h => ?_, headsL_nodup t (i + 1)⟩
      obtain ⟨x, hx, e⟩ := List.mem_map.1 h
      have e2 : x.f1 = (i : Int) := e
      have := headsL_which t (i + 1) x hx
      omega
theorem headsL_mem : ∀ (ls : List (List S37)) (i : Nat), ∀ x ∈ headsL ls i, x.f0 ∈ ls
  | [], i, x, h => by simp [headsL] at h
  | l :: t, i, x, h => by
    simp only [headsL] at h
    split at h
    · exact List.mem_cons_of_mem _ (headsL_mem t _ x h)
    · rcases List.mem_cons.1 h with rfl | h
      · simp
      · exact List.mem_cons_of_mem _ (headsL_mem t _ x h)
theorem has_heads {c : S37} : ∀ (ls : List (List S37)) (i : Nat), Has (headsL ls i) c ↔ FirstC ls c
  | [], i => by simp [headsL, FirstC, Has]
  | l :: t, i => by
    have ih := has_heads (c := c) t (i + 1)
    simp only [headsL]
    by_cases hl : l = []
    · rw [if_pos hl, ih, FirstC, hl]; simp
    · rw [if_neg hl, FirstC, ← ih]
      have hw := headsL_which t (i + 1)
      constructor
      · rintro ⟨y, h1, h2, h3⟩
        rcases List.mem_cons.1 h1 with rfl | h1
        · exact .inl h2
        · refine .inr ⟨fun d hd e => ?_, y, h1, h2, fun h' hh => h3 h' (List.mem_cons_of_mem _ hh)⟩
          have h5 : y.f1 ≤ (i : Int) := h3 _ List.mem_cons_self d hd e
          have h6 := hw y h1
          omega
      · rintro (h1 | ⟨h1, y, h2, h3, h4⟩)
        · refine ⟨_, List.mem_cons_self, h1, fun h' hh c' hc' e => ?_⟩
          rcases List.mem_cons.1 hh with rfl | hh
          · exact Int.le_refl _
          · have := hw h' hh; show (i : Int) ≤ _; omega
        · refine ⟨y, List.mem_cons_of_mem _ h2, h3, fun h' hh c' hc' e => ?_⟩
          rcases List.mem_cons.1 hh with rfl | hh
          · exact absurd e (h1 c' hc')
          · exact h4 h' hh c' hc' e
theorem Ev_map {α β : Type} {g : Nat → Option α} {a : α} (f : α → β) (h : Ev g a) : Ev (fun k => (g k).map f) (f a) := by
  obtain ⟨n, hn⟩ := h
  exact ⟨n, fun k hk => by show (g k).map f = _; rw [hn k hk]; rfl⟩
def tot (ls : List (List S37)) : Nat := (ls.map List.length).sum
theorem le_tot : ∀ (ls : List (List S37)) (l : List S37), l ∈ ls → l.length ≤ tot ls
  | x :: t, l, h => by
    have e : tot (x :: t) = x.length + tot t := by simp [tot]
    rcases List.mem_cons.1 h with rfl | h
    · omega
    · have := le_tot t l h; omega
theorem total_heads : ∀ (ls : List (List S37)) (i : Nat), total (headsL ls i) = tot ls
  | [], i => rfl
  | l :: t, i => by
    have ih := total_heads t (i + 1)
    simp only [headsL, tot, List.map_cons, List.sum_cons] at *
    split
    · rename_i h; rw [ih, h]; simp
    · simp only [total, List.map_cons, List.sum_cons] at *; rw [ih]
theorem run_merge_ev (ls : List (List S37)) (hl : ls.length ≤ 1000) (ht : tot ls < 1000000) : Ev (fun k => PGr.run_Merge.f k ls) (if ls.all rightB = true then (refFold ls [], 0) else ([], 3)) := by
  have hlen : ∀ l ∈ ls, l.length < 9223372036854775807 := by
    intro l hm
    have := le_tot ls l hm
    omega
  show Ev (fun k => Go.Proofs.Ytkkfkccfnfjbiaa.Hw.run_Merge.f k ls) _
  unfold Go.Proofs.Ytkkfkccfnfjbiaa.Hw.run_Merge.f
  simp only [if_pos hl]
  refine Ev.bind (rightL_ev ls hlen) ?_
  cases hb : ls.all rightB with
  | false => simp only [Bool.false_eq_true, if_false]; exact Ev.now _
  | true =>
    simp only [if_true]
    have hr : ∀ l ∈ ls, rightB l = true := by simpa using hb
    obtain ⟨vs, h1, h2, h3⟩ := init_ok ((headsL ls 0).length / 2) (headsL ls 0) (headsL ls 0).length (Nat.le_refl _) (by omega) (heaped_half _ _)
    have hlv : vs.length = (headsL ls 0).length := h2.length_eq
    rw [h1]
    simp only [Option.bind_some]
    have hinv : Inv vs [] := Inv.perm h2.symm ⟨List.Pairwise.nil, fun x hx => ((right_iff _).1 (hr _ (headsL_mem ls 0 x hx))).1, (fun c hc => by cases hc), headsL_nodup ls 0⟩
    obtain ⟨r, hev, hs, hm⟩ := merge_l (total vs) vs [] (Nat.le_refl _) hinv (fun y hy => headsL_full ls 0 y (h2.mem_iff.1 hy)) (by rw [hlv]; exact h3) (by rw [total_perm h2, total_heads]; simpa using ht)
    have e : r = refFold ls [] := by
      refine hs.ext (sorted_refFold ls [] List.Pairwise.nil) fun c => ?_
      rw [hm, Will.perm h2, mem_refFold ls hr]
      unfold Will
      rw [has_heads]
      simp
    rw [← e]
    exact Ev_map (fun o => (o, (0 : Int))) hev
theorem refFold_len : ∀ (ls : List (List S37)) (out : List S37), (refFold ls out).length ≤ out.length + tot ls
  | [], out => by simp [refFold, tot]
  | l :: t, out => by
    have h1 := refFold_len t out
    have h2 := putAll_len l (refFold t out)
    show (putsL (refFold t out) l).length ≤ _
    have : tot (l :: t) = l.length + tot t := by simp [tot]
    omega
theorem same_l0 (l : List S37) (hl : l.length < 9223372036854775807) : ∀ (m i : Nat), i + m = l.length → Ev (fun k => shelfmarkref09_Same.l0 k l l (i : Int)) true
  | 0, i, h => by
    refine Ev.step (fun _ => shelfmarkref09_Same.l0.eq_2 ..) (Ev.congr (fun k => ?_) (Ev.now _))
    rw [if_neg (by omega)]
  | m + 1, i, h => by
    refine Ev.step (fun _ => shelfmarkref09_Same.l0.eq_2 ..) (Ev.congr (fun k => ?_) (same_l0 l hl m (i + 1) (by omega)))
    rw [if_pos (by omega), if_pos (by omega), if_pos (by omega), if_neg (by simp), up1 (by omega)]
theorem same_ev (l : List S37) (hl : l.length < 9223372036854775807) : Ev (fun k => shelfmarkref09_Same.f k l l) true := by
  unfold shelfmarkref09_Same.f
  simp only [if_true]
  exact same_l0 l hl l.length 0 (by omega)
end Go.Proofs.Ytkkfkccfnfjbiaa.Rd
namespace Go.Proofs.Ytkkfkccfnfjbiaa.Re
open Go.RowKit Go.Proofs.Ytkkfkccfnfjbiaa.PGr Go.Proofs.YtkkfkccfnfjbiaaW.PrintWords Go.Proofs.YtkkfkccfnfjbiaaW.PrintLast Go.Proofs.Ytkkfkccfnfjbiaa.Ra Go.Proofs.Ytkkfkccfnfjbiaa.Rb Go.Proofs.Ytkkfkccfnfjbiaa.Rc Go.Proofs.Ytkkfkccfnfjbiaa.Rd
set_option linter.unusedSimpArgs false
set_option linter.unusedVariables false
theorem mn_le (n : Nat) : 0 ≤ mn (n : Int) 4001 ∧ mn (n : Int) 4001 ≤ 4001 := by unfold mn; omega
theorem light_l0 (l : List S37) (hl : l.length ≤ 1000) : ∀ (m i : Nat) (x : Int), i + m = l.length → 0 ≤ x → x ≤ 20000 → ∃ b, Ev (fun k => shelfmarkref09_Light.l0 k l x (i : Int)) b
  | 0, i, x, h, h0, h1 => ⟨decide (x ≤ 4000), by
    refine Ev.step (fun _ => shelfmarkref09_Light.l0.eq_2 ..) (Ev.congr (fun k => ?_) (Ev.now _))
    rw [if_neg (by omega)]⟩
  | m + 1, i, x, h, h0, h1 => by
    by_cases hx : x ≤ 4000
    · have ha := mn_le (rd_T37 l (i : Int)).f0.size
      have hb := mn_le (rd_T37 l (i : Int)).f1.size
      obtain ⟨b, ih⟩ := light_l0 l hl m (i + 1) (x + mn ((rd_T37 l (i : Int)).f0.size : Int) 4001 + mn ((rd_T37 l (i : Int)).f1.size : Int) 4001) (by omega) (by omega) (by omega)
      refine ⟨b, Ev.step (fun _ => shelfmarkref09_Light.l0.eq_2 ..) (Ev.congr (fun k => ?_) ih)⟩
      rw [if_pos (by omega), if_pos hx, if_pos (by omega), up1 (by omega), w64 (x := x + _) (by omega) (by omega), w64 (by omega) (by omega)]
    · refine ⟨decide (x ≤ 4000), Ev.step (fun _ => shelfmarkref09_Light.l0.eq_2 ..) (Ev.congr (fun k => ?_) (Ev.now _))⟩
      rw [if_pos (by omega), if_neg hx]
theorem light_ev (l : List S37) : ∃ b, Ev (fun k => shelfmarkref09_Light.f k l 60) b ∧ (b = true → l.length ≤ 60) := by
  unfold shelfmarkref09_Light.f
  by_cases h : (l.length : Int) > 60
  · refine ⟨false, ?_, (fun e => by cases e)⟩
    simp only [if_pos h]
    exact Ev.now _
  · obtain ⟨b, hb⟩ := light_l0 l (by omega) l.length 0 0 (by omega) (by omega) (by omega)
    refine ⟨b, ?_, fun _ => by omega⟩
    simp only [if_neg h]
    exact hb
end Go.Proofs.Ytkkfkccfnfjbiaa.Re
namespace Go.Proofs.Ytkkfkccfnfjbiaa.Rg
open Go.RowKit Go.Proofs.Ytkkfkccfnfjbiaa.PGr Go.Proofs.YtkkfkccfnfjbiaaW.PrintWords Go.Proofs.YtkkfkccfnfjbiaaW.PrintLast Go.Proofs.Ytkkfkccfnfjbiaa.Ht Go.Proofs.Ytkkfkccfnfjbiaa.Ra Go.Proofs.Ytkkfkccfnfjbiaa.Rb Go.Proofs.Ytkkfkccfnfjbiaa.Rc Go.Proofs.Ytkkfkccfnfjbiaa.Rd Go.Proofs.Ytkkfkccfnfjbiaa.Re
set_option linter.unusedSimpArgs false
set_option linter.unusedVariables false
theorem seek_1 (c : S37) (a : ByteArray) : run_seek_1.f c.f0 c.f1 c.f2 a = some (if K c < a.toList then -1 else if a.toList < K c then 1 else 0) := by
  unfold run_seek_1.f
  rw [cmp_str, bl_eq, bl_eq]
  simp only [Option.bind_some, decide_eq_true_eq]
  rfl
/-- Below place i the keys are less than a, from there on they are not. -/
def At (l : List S37) (a : List UInt8) (i : Nat) : Prop := i ≤ l.length ∧ (∀ m (h : m < l.length), m < i → K l[m] < a) ∧ ∀ m (h : m < l.length), i ≤ m → ¬ K l[m] < a
def hit (l : List S37) (a : List UInt8) (i : Nat) : Bool := if h : i < l.length then decide (K l[i] = a) else false
theorem bs_l0 (l : List S37) (hl : l.length < 1000000) (hs : Sorted l) (a : ByteArray) : ∀ (m i j : Nat), j - i ≤ m → i ≤ j → j ≤ l.length → (∀ q (h : q < l.length), q < i → K l[q] < a.toList) → (∀ q (h : q < l.length), j ≤ q → ¬ K l[q] < a.toList) →
    ∃ r, At l a.toList r ∧ Ev (fun k => slices_BinarySearchFunc_api_Change_api_Change_string_at_run_seek_1.l0 k l a (l.length : Int) (i : Int) (j : Int)) ((r : Int), hit l a.toList r)
  | 0, i, j, h, hij, hj, h1, h2 => by
    obtain rfl : i = j := by omega
    refine ⟨i, ⟨hj, h1, h2⟩, Ev.step (fun _ => slices_BinarySearchFunc_api_Change_api_Change_string_at_run_seek_1.l0.eq_2 ..) ?_⟩
    by_cases hi : i < l.length
    · refine Ev.congr (fun k => ?_) (Ev.now _)
      rw [if_neg (by omega), if_pos (by omega), if_pos (by omega), if_pos (by omega), rd_get l i hi]
      show (run_seek_1.f _ _ _ _).bind _ = _
      rw [seek_1, Option.bind_some]
      unfold hit
      rw [dif_pos hi]
      have h3 := h2 i hi (Nat.le_refl _)
      rw [if_neg h3]
      by_cases h4 : a.toList < K l[i]
      · rw [if_pos h4, decide_eq_false (fun e => by rw [e] at h4; exact List.lt_irrefl _ h4)]; rfl
      · rw [if_neg h4, decide_eq_true (List.le_antisymm h4 h3)]; rfl
    · refine Ev.congr (fun k => ?_) (Ev.now _)
      unfold hit
      rw [if_neg (by omega), if_neg (by omega), dif_neg hi]
  | m + 1, i, j, h, hij, hj, h1, h2 => by
    by_cases he : i = j
    · exact bs_l0 l hl hs a 0 i j (by omega) hij hj h1 h2
    · have hm : wrap64 ((IntKind.u64.wrap (wrap64 ((i : Int) + (j : Int)))) / 2) = (((i + j) / 2 : Nat) : Int) := by
        rw [w64 (x := (i : Int) + j) (by omega) (by omega)]
        have : IntKind.u64.wrap ((i : Int) + j) = (i : Int) + j := by
          rw [IntKind.wrap_u64]; omega
        rw [this, w64 (by omega) (by omega)]
        omega
      obtain ⟨q, hq⟩ : ∃ q, (i + j) / 2 = q := ⟨_, rfl⟩
      rw [hq] at hm
      have hql : q < l.length := by omega
      by_cases hk : K l[q] < a.toList
      · obtain ⟨r, hr, ih⟩ := bs_l0 l hl hs a m (q + 1) j (by omega) (by omega) hj (fun p hp hlt => by
          by_cases e : p = q
          · subst e; exact hk
          · exact List.lt_trans (List.pairwise_iff_getElem.1 hs p q hp hql (by omega)) hk) h2
        refine ⟨r, hr, Ev.step (fun _ => slices_BinarySearchFunc_api_Change_api_Change_string_at_run_seek_1.l0.eq_2 ..) (Ev.congr (fun k => ?_) ih)⟩
        rw [hm, if_pos (by omega), if_pos (by omega), if_pos (by omega), rd_get l q hql]
        show (run_seek_1.f _ _ _ _).bind _ = _
        rw [seek_1, Option.bind_some, if_pos hk, if_pos (by decide), up1 (by omega)]
      · obtain ⟨r, hr, ih⟩ := bs_l0 l hl hs a m i q (by omega) (by omega) (by omega) h1 (fun p hp hle => by
          by_cases e : p = q
          · subst e; exact hk
          · exact fun hlt => hk (List.lt_trans (List.pairwise_iff_getElem.1 hs q p hql hp (by omega)) hlt))
        refine ⟨r, hr, Ev.step (fun _ => slices_BinarySearchFunc_api_Change_api_Change_string_at_run_seek_1.l0.eq_2 ..) (Ev.congr (fun k => ?_) ih)⟩
        rw [hm, if_pos (by omega), if_pos (by omega), if_pos (by omega), rd_get l q hql]
        show (run_seek_1.f _ _ _ _).bind _ = _
        rw [seek_1, Option.bind_some, if_neg hk]
        by_cases h4 : a.toList < K l[q]
        · rw [if_pos h4, if_neg (by decide)]
        · rw [if_neg h4, if_neg (by decide)]
theorem seek_ev (l : List S37) (hl : l.length < 1000000) (hs : Sorted l) (a : ByteArray) : ∃ r, At l a.toList r ∧ Ev (fun k => run_seek.f k l a) ((r : Int), hit l a.toList r) := by
  obtain ⟨r, hr, h⟩ := bs_l0 l hl hs a l.length 0 l.length (by omega) (by omega) (Nat.le_refl _) (fun q hq h => by omega) (fun q hq h => by omega)
  refine ⟨r, hr, ?_⟩
  unfold run_seek.f
  exact Ev.bind h (Ev.now _)
/-- Does the range have it? -/
def inB (lo hi : List UInt8) (c : S37) : Bool := !decide (K c < lo) && (decide (hi = []) || decide (K c < hi))
theorem clone_ev (l : List S37) (hl : l.length < 1000000) : slices_Clone_api_Change_api_Change.f l = some l := by
  unfold slices_Clone_api_Change_api_Change.f
  rw [Option.bind_some, if_pos (show ([] : List S37).length + l.length < 3518437208883 by rw [List.length_nil]; omega)]
  rfl
theorem slice_at {l : List S37} {lo hi : List UInt8} {i j : Nat} (h1 : At l lo i) (h2 : if hi = [] then j = l.length else At l hi j) : l.filter (inB lo hi) = (l.take (max i j)).drop i := by
  have hj : j ≤ l.length := by
    by_cases e : hi = []
    · rw [if_pos e] at h2; omega
    · rw [if_neg e] at h2; exact h2.1
  have hsplit : l = l.take i ++ ((l.take (max i j)).drop i ++ l.drop (max i j)) := by
    rw [← List.append_assoc]
    have : l.take i ++ (l.take (max i j)).drop i = l.take (max i j) := by
      conv => rhs; rw [← List.take_append_drop i (l.take (max i j)), List.take_take, Nat.min_eq_left (by omega)]
    rw [this, List.take_append_drop]
  have f1 : (l.take i).filter (inB lo hi) = [] := by
    rw [List.filter_eq_nil_iff]
    intro c hc
    obtain ⟨m, hm, rfl⟩ := List.getElem_of_mem hc
    rw [List.length_take] at hm
    rw [List.getElem_take]
    have := h1.2.1 m (by omega) (by omega)
    unfold inB
    rw [decide_eq_true this]; simp
  have f2 : ((l.take (max i j)).drop i).filter (inB lo hi) = (l.take (max i j)).drop i := by
    rw [List.filter_eq_self]
    intro c hc
    obtain ⟨m, hm, rfl⟩ := List.getElem_of_mem hc
    rw [List.length_drop, List.length_take] at hm
    rw [List.getElem_drop, List.getElem_take]
    have := h1.2.2 (i + m) (by omega) (by omega)
    unfold inB
    rw [decide_eq_false this]
    by_cases e : hi = []
    · rw [decide_eq_true e]; rfl
    · rw [if_neg e] at h2
      rw [decide_eq_true (h2.2.1 (i + m) (by omega) (by omega))]; simp
  have f3 : (l.drop (max i j)).filter (inB lo hi) = [] := by
    rw [List.filter_eq_nil_iff]
    intro c hc
    obtain ⟨m, hm, rfl⟩ := List.getElem_of_mem hc
    rw [List.length_drop] at hm
    rw [List.getElem_drop]
    unfold inB
    by_cases e : hi = []
    · rw [if_pos e] at h2; omega
    · rw [if_neg e] at h2
      rw [decide_eq_false e, decide_eq_false (h2.2.2 (max i j + m) (by omega) (by omega))]; simp
  conv => lhs; rw [hsplit, List.filter_append, List.filter_append, f1, f2, f3]
  simp
theorem Slice_ev (l : List S37) (hl : l.length < 1000000) (lo hi : ByteArray) : Ev (fun k => run_Slice.f k l lo hi) (if rightB l = true then l.filter (inB lo.toList hi.toList) else []) := by
  unfold run_Slice.f
  refine Ev.bind (right_ev l (by omega)) ?_
  cases hb : rightB l with
  | false => simp only [Bool.false_eq_true, if_false]; exact Ev.now _
  | true =>
    simp only [if_true]
    have hs := ((right_iff l).1 hb).1
    obtain ⟨i, hi1, h1⟩ := seek_ev l hl hs lo
    refine Ev.bind h1 ?_
    have hil := hi1.1
    by_cases e : hi.toList = []
    · have hmx : mx (i : Int) (l.length : Int) = (l.length : Int) := by unfold mx; omega
      rw [slice_at (j := l.length) hi1 (by rw [if_pos e])]
      refine Ev.congr (fun k => ?_) (Ev.now _)
      rw [if_pos e, hmx, if_pos (by omega), if_pos (by omega), if_pos (by omega), Int.toNat_natCast, Int.toNat_natCast, clone_ev _ (by rw [List.length_drop, List.length_take]; omega), Option.bind_some, Nat.max_eq_right (by omega)]
    · obtain ⟨j, hj1, h2⟩ := seek_ev l hl hs hi
      have hjl := hj1.1
      have hmx : mx (i : Int) (j : Int) = ((max i j : Nat) : Int) := by unfold mx; omega
      rw [slice_at (j := j) hi1 (by rw [if_neg e]; exact hj1)]
      refine Ev.congr (fun k => if_neg e) (Ev.bind h2 (Ev.congr (fun k => ?_) (Ev.now _)))
      rw [hmx, if_pos (by omega), if_pos (by omega), if_pos (by omega), Int.toNat_natCast, Int.toNat_natCast, clone_ev _ (by rw [List.length_drop, List.length_take]; omega), Option.bind_some]
end Go.Proofs.Ytkkfkccfnfjbiaa.Rg
namespace Go.Proofs.Ytkkfkccfnfjbiaa.Sa
open Go.RowKit Go.Proofs.Ytkkfkccfnfjbiaa.PGr Go.Proofs.YtkkfkccfnfjbiaaW.PrintWords Go.Proofs.YtkkfkccfnfjbiaaW.PrintLast Go.Proofs.Ytkkfkccfnfjbiaa.Ra Go.Proofs.Ytkkfkccfnfjbiaa.Rb Go.Proofs.Ytkkfkccfnfjbiaa.Rc Go.Proofs.Ytkkfkccfnfjbiaa.Rd Go.Proofs.Ytkkfkccfnfjbiaa.Ka Go.Proofs.Ytkkfkccfnfjbiaa.Kc
set_option linter.unusedSimpArgs false
set_option linter.unusedVariables false
theorem kle_trans {a b c : List UInt8} (h : ¬ b < a) (k : ¬ c < b) : ¬ c < a := List.le_trans h k
theorem klt_of {a b c : List UInt8} (h : ¬ b < a) (k : b < c) : a < c := by
  by_cases h2 : a < c
  · exact h2
  · exact absurd k (kle_trans h2 h)
def Srt (l : List S37) : Prop := l.Pairwise (fun a b => ¬ K b < K a)
def grp (q : List UInt8) (l : List S37) : List S37 := l.filter (fun c => decide (K c = q))
/-- Alike, key by key. -/
def Sim (l m : List S37) : Prop := ∀ q, grp q l = grp q m
theorem Sim.refl (l : List S37) : Sim l l := fun _ => rfl
theorem Sim.symm {l m : List S37} (h : Sim l m) : Sim m l := fun q => (h q).symm
theorem Sim.trans {l m n : List S37} (h : Sim l m) (k : Sim m n) : Sim l n := fun q => (h q).trans (k q)
theorem grp_app (q : List UInt8) (a b : List S37) : grp q (a ++ b) = grp q a ++ grp q b := by simp [grp]
theorem Sim.app {a b c d : List S37} (h : Sim a b) (k : Sim c d) : Sim (a ++ c) (b ++ d) := fun q => by rw [grp_app, grp_app, h q, k q]
theorem Sim.mid {u v : List S37} (a b : List S37) (h : Sim u v) : Sim (a ++ u ++ b) (a ++ v ++ b) := ((Sim.refl a).app h).app (Sim.refl b)
theorem grp_nil {q : List UInt8} {l : List S37} (h : ∀ x ∈ l, K x ≠ q) : grp q l = [] := by
  unfold grp
  rw [List.filter_eq_nil_iff]
  intro x hx
  simpa using h x hx
theorem Sim.rot {u v : List S37} (h : ∀ x ∈ u, ∀ y ∈ v, K x ≠ K y) : Sim (u ++ v) (v ++ u) := fun q => by
  rw [grp_app, grp_app]
  by_cases hq : ∃ x ∈ u, K x = q
  · obtain ⟨x, hx, rfl⟩ := hq
    rw [grp_nil (l := v) (fun y hy e => h x hx y hy e.symm)]; simp
  · rw [grp_nil (l := u) (fun x hx e => hq ⟨x, hx, e⟩)]; simp
theorem Sim.mem {l m : List S37} (h : Sim l m) (x : S37) : x ∈ l ↔ x ∈ m := by
  have e : ∀ l : List S37, x ∈ l ↔ x ∈ grp (K x) l := fun l => by simp [grp]
  rw [e, e m, h]
theorem Srt.app {a b : List S37} (ha : Srt a) (hb : Srt b) (h : ∀ x ∈ a, ∀ y ∈ b, ¬ K y < K x) : Srt (a ++ b) := List.pairwise_append.2 ⟨ha, hb, h⟩
theorem Srt.parts {a b : List S37} (h : Srt (a ++ b)) : Srt a ∧ Srt b ∧ ∀ x ∈ a, ∀ y ∈ b, ¬ K y < K x := List.pairwise_append.1 h
theorem Srt.get {l : List S37} (h : Srt l) {i j : Nat} (hi : i < l.length) (hj : j < l.length) (hij : i ≤ j) : ¬ K l[j] < K l[i] := by
  rcases Nat.lt_or_ge i j with h1 | h1
  · exact List.pairwise_iff_getElem.1 h i j hi hj h1
  · obtain rfl : i = j := by omega
    exact List.lt_irrefl _
theorem clr_norm : clr = norm := rfl
theorem putsL_snoc (l : List S37) (d : S37) : putsL [] (l ++ [d]) = putL (putsL [] l) (norm d) := by simp [putsL]
theorem sorted_puts (l : List S37) : Sorted (putsL [] l) := sorted_putAll l [] List.Pairwise.nil
theorem mem_puts (c : S37) : ∀ m : List S37, c ∈ putsL [] m.reverse ↔ ∃ d, m.find? (fun x => decide (K x = K c)) = some d ∧ norm d = c
  | [] => by simp [putsL]
  | d :: m => by
    rw [List.reverse_cons, putsL_snoc, mem_putL (sorted_puts _), mem_puts c m, List.find?_cons, norm_key]
    by_cases hk : K d = K c
    · simp only [hk, decide_true, Option.some.injEq, exists_eq_left']
      constructor
      · rintro (h | ⟨_, h⟩)
        · exact h.symm
        · exact absurd rfl h
      · intro h
        exact .inl h.symm
    · simp only [hk, decide_false]
      constructor
      · rintro (h | ⟨h, _⟩)
        · exact absurd (by rw [h, norm_key]) hk
        · exact h
      · intro h
        exact .inr ⟨h, fun e => hk e.symm⟩
theorem elA_get (l : List S37) (i : Nat) (h : i < l.length) : elA l i = l[i] := by
  unfold elA
  rw [List.getD_eq_getElem?_getD, List.getElem?_eq_getElem h]; rfl
/-- In a sorted list a place is kept where its key comes first. -/
theorem keep_first {l : List S37} (hs : Srt l) {j : Nat} (hj : j < l.length) : keepK l j = true ↔ ∀ i (h : i < l.length), i < j → K l[i] ≠ K l[j] := by
  have hky : ∀ i (h : i < l.length), ky l i = K l[i] := fun i h => by unfold ky; rw [elA_get l i h]; rfl
  unfold keepK
  cases j with
  | zero => simp
  | succ j =>
    have hj' : j < l.length := by omega
    rw [hky _ hj, show j + 1 - 1 = j by omega, hky _ hj', show (j + 1 == 0) = false from rfl, Bool.false_or, Bool.not_eq_true', beq_eq_false_iff_ne]
    constructor
    · intro h i hi hij e
      have h1 := hs.get hi hj' (by omega)
      have h2 := hs.get hj' hj (by omega)
      rw [e] at h1
      exact h (List.le_antisymm h1 h2)
    · intro h e
      exact h j hj' (by omega) e.symm
theorem mem_comp {l : List S37} (hs : Srt l) (c : S37) : c ∈ compactL l ↔ l.find? (fun x => decide (K x = K c)) = some c := by
  unfold compactL compTo
  rw [List.mem_map, List.find?_eq_some_iff_getElem]
  constructor
  · rintro ⟨j, hj, rfl⟩
    rw [List.mem_filter, List.mem_range] at hj
    obtain ⟨hj, hk⟩ := hj
    have := (keep_first hs hj).1 hk
    rw [elA_get l j hj]
    exact ⟨by simp, j, hj, rfl, fun i hi => by simpa using this i (by omega) hi⟩
  · rintro ⟨_, j, hj, rfl, h⟩
    refine ⟨j, List.mem_filter.2 ⟨List.mem_range.2 hj, (keep_first hs hj).2 fun i hi hij => ?_⟩, elA_get l j hj⟩
    simpa using h i hij
theorem sorted_comp {l : List S37} (hs : Srt l) : Sorted (compactL l) := by
  unfold Sorted compactL compTo
  rw [List.pairwise_map]
  refine List.Pairwise.imp_of_mem (R := (· < ·)) ?_ (List.Pairwise.filter _ List.pairwise_lt_range)
  intro i j hi hj hij
  rw [List.mem_filter, List.mem_range] at hi hj
  rw [elA_get l i hi.1, elA_get l j hj.1]
  have h1 := (keep_first hs hj.1).1 hj.2 i hi.1 hij
  have h2 := hs.get hi.1 hj.1 (by omega)
  by_cases h3 : K l[i] < K l[j]
  · exact h3
  · exact absurd (List.le_antisymm h2 h3) h1
/-- The first of each key in a sorted list that is alike with the puts turned round. -/
theorem comp_puts {l x : List S37} (h : Sim l.reverse x) (hs : Srt x) : (compactL x).map clr = putsL [] l := by
  refine Sorted.ext ?_ (sorted_puts l) fun c => ?_
  · unfold Sorted
    rw [List.pairwise_map, clr_norm]
    exact List.Pairwise.imp (fun hab => by rw [norm_key, norm_key]; exact hab) (sorted_comp hs)
  · have h1 := mem_puts c l.reverse
    rw [List.reverse_reverse] at h1
    rw [h1, List.mem_map, clr_norm]
    have hf : ∀ q, l.reverse.find? (fun y => decide (K y = q)) = x.find? (fun y => decide (K y = q)) := fun q => by
      rw [← List.head?_filter, ← List.head?_filter]
      exact congrArg List.head? (h q)
    constructor
    · rintro ⟨d, hd, rfl⟩
      rw [mem_comp hs] at hd
      exact ⟨d, by rw [hf, norm_key]; exact hd, rfl⟩
    · rintro ⟨d, hd, rfl⟩
      rw [hf, norm_key] at hd
      exact ⟨d, (mem_comp hs d).2 hd, rfl⟩
end Go.Proofs.Ytkkfkccfnfjbiaa.Sa
namespace Go.Proofs.Ytkkfkccfnfjbiaa.Sb
open Go.RowKit Go.Proofs.Ytkkfkccfnfjbiaa.PGr Go.Proofs.YtkkfkccfnfjbiaaW.PrintWords Go.Proofs.YtkkfkccfnfjbiaaW.PrintLast Go.Proofs.Ytkkfkccfnfjbiaa.Ht Go.Proofs.Ytkkfkccfnfjbiaa.Ra Go.Proofs.Ytkkfkccfnfjbiaa.Rb Go.Proofs.Ytkkfkccfnfjbiaa.Rc Go.Proofs.Ytkkfkccfnfjbiaa.Rd Go.Proofs.Ytkkfkccfnfjbiaa.Rg Go.Proofs.Ytkkfkccfnfjbiaa.Ka Go.Proofs.Ytkkfkccfnfjbiaa.Kc Go.Proofs.Ytkkfkccfnfjbiaa.Sa
set_option linter.unusedSimpArgs false
set_option linter.unusedVariables false
theorem half {i j : Nat} (h : i + j < 4611686018427387904) : wrap64 ((IntKind.u64.wrap (wrap64 ((i : Int) + (j : Int)))) / 2) = (((i + j) / 2 : Nat) : Int) := by
  rw [w64 (x := (i : Int) + j) (by omega) (by omega)]
  have : IntKind.u64.wrap ((i : Int) + j) = (i : Int) + j := by
    rw [IntKind.wrap_u64]; omega
  rw [this, w64 (by omega) (by omega)]
  omega
theorem by_key (x y : S37) : run_byKey.f x.f0 x.f1 x.f2 y.f0 y.f1 y.f2 = some (if K x < K y then -1 else if K y < K x then 1 else 0) := by
  unfold run_byKey.f
  rw [cmp_str, bl_eq, bl_eq]
  simp only [Option.bind_some, decide_eq_true_eq]
  rfl
theorem neg_iff (x y : S37) : ((if K x < K y then (-1 : Int) else if K y < K x then 1 else 0) < 0) ↔ K x < K y := by
  by_cases h : K x < K y
  · simp [h]
  · by_cases h2 : K y < K x <;> simp [h, h2]
theorem eta37 (x : S37) : (⟨x.f0, x.f1, x.f2⟩ : S37) = x := rfl
theorem set_at (A R : List S37) (x y : S37) : (A ++ x :: R).set A.length y = A ++ y :: R := by simp
theorem swap2 (A M B : List S37) (x y : S37) (i j : Nat) (hi : i = A.length) (hj : j = A.length + 1 + M.length) (l : List S37) (hl : l = A ++ x :: (M ++ y :: B)) :
    rd_T37 l (i : Int) = x ∧ rd_T37 l (j : Int) = y ∧ i < l.length ∧ j < l.length ∧ (l.set i y).set j x = A ++ y :: (M ++ x :: B) ∧ (l.set j x).set i y = A ++ y :: (M ++ x :: B) := by
  have e1 : A ++ x :: (M ++ y :: B) = (A ++ x :: M) ++ y :: B := by simp
  have e2 : ∀ z, A ++ z :: (M ++ y :: B) = (A ++ z :: M) ++ y :: B := by simp
  have e3 : ∀ z, A ++ z :: (M ++ x :: B) = (A ++ z :: M) ++ x :: B := by simp
  have l1 : ∀ z : S37, (A ++ z :: M).length = j := fun z => by rw [hj, List.length_append, List.length_cons]; omega
  have hli : i < l.length := by rw [hl, hi]; simp
  have hlj : j < l.length := by rw [hl, hj]; simp; omega
  refine ⟨?_, ?_, hli, hlj, ?_, ?_⟩
  · rw [rd_get l i hli]
    subst hl; subst hi
    simp
  · rw [rd_get l j hlj]
    subst hl
    rw [List.getElem_of_eq (e2 x), List.getElem_append_right (by rw [l1 x]; exact Nat.le_refl _)]
    simp [l1 x]
  · rw [hl, hi, set_at, e2, ← l1 y, set_at, e3]
  · rw [hl, e2, ← l1 x, set_at, ← e3, hi, set_at]
theorem rev_l0 : ∀ (n : Nat) (A X B : List S37), X.length ≤ n → (A ++ (X ++ B)).length < 4611686018427387904 → Ev (fun k => slices_Reverse_api_Change_api_Change.l0 k (A ++ (X ++ B)) (A.length : Int) ((A.length : Int) + X.length - 1)) (A ++ (X.reverse ++ B)) := by
  intro n
  induction n with
  | zero =>
    intro A X B h hb
    obtain rfl : X = [] := List.eq_nil_of_length_eq_zero (by omega)
    refine Ev.step (fun _ => slices_Reverse_api_Change_api_Change.l0.eq_2 ..) (Ev.congr (fun k => if_neg (by simp <;> omega)) ?_)
    exact Ev.now _
  | succ n ih =>
    intro A X B h hb
    cases X with
    | nil =>
      refine Ev.step (fun _ => slices_Reverse_api_Change_api_Change.l0.eq_2 ..) (Ev.congr (fun k => if_neg (by simp <;> omega)) ?_)
      exact Ev.now _
    | cons x X =>
      rcases List.eq_nil_or_concat X with rfl | ⟨M, y, rfl⟩
      · refine Ev.step (fun _ => slices_Reverse_api_Change_api_Change.l0.eq_2 ..) (Ev.congr (fun k => if_neg (by simp <;> omega)) ?_)
        exact Ev.now _
      · rw [List.concat_eq_append] at *
        obtain ⟨l, hl⟩ : ∃ l, l = A ++ x :: (M ++ y :: B) := ⟨_, rfl⟩
        have e : A ++ ((x :: (M ++ [y])) ++ B) = l := by rw [hl]; simp
        rw [e] at hb ⊢
        obtain ⟨h1, h2, h3, h4, h5, _⟩ := swap2 A M B x y A.length (A.length + 1 + M.length) rfl rfl l hl
        have ej : (A.length : Int) + ((x :: (M ++ [y])).length : Int) - 1 = ((A.length + 1 + M.length : Nat) : Int) := by
          simp only [List.length_cons, List.length_append, List.length_nil]; omega
        rw [ej]
        have hih := ih (A ++ [y]) M (x :: B) (by simp at h; omega) (by rw [hl] at hb; simp at hb ⊢; omega)
        rw [show (A ++ [y]) ++ (M.reverse ++ x :: B) = A ++ ((x :: (M ++ [y])).reverse ++ B) by simp] at hih
        refine Ev.step (fun _ => slices_Reverse_api_Change_api_Change.l0.eq_2 ..) (Ev.congr (fun k => ?_) hih)
        rw [if_pos (by omega), if_pos (by omega), if_pos (by omega), if_pos (by omega), if_pos (by omega), h1, h2, eta37, eta37, Int.toNat_natCast, Int.toNat_natCast, h5, w64 (by omega) (by omega), w64 (by omega) (by omega)]
        congr 1
        · simp
        · simp
        · simp <;> omega
theorem Reverse_ev (l : List S37) (h : l.length < 4611686018427387904) : Ev (fun k => slices_Reverse_api_Change_api_Change.f k l) l.reverse := by
  unfold slices_Reverse_api_Change_api_Change.f
  rw [w64 (by omega) (by omega)]
  have := rev_l0 l.length [] l [] (Nat.le_refl _) (by simpa using h)
  simpa using this
theorem swr : ∀ (X A M Y B : List S37) (a b n i : Nat), X.length = Y.length → a + i = A.length → b + i = A.length + X.length + M.length → n = i + X.length → (A ++ (X ++ (M ++ (Y ++ B)))).length < 4611686018427387904 →
    Ev (fun k => slices_swapRangeCmpFunc_api_Change_at_run_byKey.l0 k (A ++ (X ++ (M ++ (Y ++ B)))) (a : Int) (b : Int) (n : Int) (i : Int)) (A ++ (Y ++ (M ++ (X ++ B))))
  | [], A, M, Y, B, a, b, n, i, h1, h2, h3, h4, h5 => by
    obtain rfl : Y = [] := List.eq_nil_of_length_eq_zero (by simpa using h1.symm)
    refine Ev.step (fun _ => slices_swapRangeCmpFunc_api_Change_at_run_byKey.l0.eq_2 ..) (Ev.congr (fun k => if_neg (by simp at h4; omega)) ?_)
    exact Ev.now _
  | x :: X, A, M, [], B, a, b, n, i, h1, h2, h3, h4, h5 => by simp at h1
  | x :: X, A, M, y :: Y, B, a, b, n, i, h1, h2, h3, h4, h5 => by
    have hih := swr X (A ++ [y]) (M ++ [x]) Y B a b n (i + 1) (by simpa using h1) (by simp; omega) (by simp at h3 ⊢; omega) (by simp at h4; omega) (by simp at h5 ⊢; omega)
    rw [show (A ++ [y]) ++ (Y ++ ((M ++ [x]) ++ (X ++ B))) = A ++ ((y :: Y) ++ (M ++ ((x :: X) ++ B))) by simp] at hih
    obtain ⟨l, hl⟩ : ∃ l, l = A ++ x :: ((X ++ M) ++ y :: (Y ++ B)) := ⟨_, rfl⟩
    have e : A ++ ((x :: X) ++ (M ++ ((y :: Y) ++ B))) = l := by rw [hl]; simp
    rw [e] at h5 ⊢
    obtain ⟨p1, p2, p3, p4, p5, _⟩ := swap2 A (X ++ M) (Y ++ B) x y (a + i) (b + i) h2 (by simp at h3 ⊢; omega) l hl
    have hn : i < n := by simp at h4; omega
    have hne : ¬ (a + i = b + i) := by simp at h3; omega
    refine Ev.step (fun _ => slices_swapRangeCmpFunc_api_Change_at_run_byKey.l0.eq_2 ..) (Ev.congr (fun k => ?_) hih)
    rw [w64 (x := (a : Int) + i) (by omega) (by omega), w64 (x := (b : Int) + i) (by omega) (by omega), show (a : Int) + i = ((a + i : Nat) : Int) by omega, show (b : Int) + i = ((b + i : Nat) : Int) by omega, up1 (by omega), Int.toNat_natCast, Int.toNat_natCast]
    rw [if_pos (by omega), if_pos (by omega), if_pos (by omega), if_pos (by omega), if_pos (by omega), if_neg hne, p1, p2, eta37, eta37, p5]
    congr 1
    simp
theorem swr_ev (X A M Y B : List S37) (a b n : Nat) (h1 : X.length = Y.length) (h2 : a = A.length) (h3 : b = A.length + X.length + M.length) (h4 : n = X.length) (h5 : (A ++ (X ++ (M ++ (Y ++ B)))).length < 4611686018427387904) :
    Ev (fun k => slices_swapRangeCmpFunc_api_Change_at_run_byKey.f k (A ++ (X ++ (M ++ (Y ++ B)))) (a : Int) (b : Int) (n : Int)) (A ++ (Y ++ (M ++ (X ++ B)))) := by
  unfold slices_swapRangeCmpFunc_api_Change_at_run_byKey.f
  exact swr X A M Y B a b n 0 h1 (by omega) (by omega) (by omega) h5
theorem split_at (l : List S37) (n : Nat) (h : n ≤ l.length) : ∃ a b, l = a ++ b ∧ a.length = n := ⟨l.take n, l.drop n, (List.take_append_drop n l).symm, by rw [List.length_take]; omega⟩
theorem rot_l0 : ∀ (s : Nat) (A X Y B : List S37) (m i j : Nat), i + j ≤ s → 0 < i → 0 < j → i = X.length → j = Y.length → m = A.length + i → (A ++ (X ++ (Y ++ B))).length < 4611686018427387904 →
    Ev (fun k => slices_rotateCmpFunc_api_Change_at_run_byKey.l0 k (A ++ (X ++ (Y ++ B))) (m : Int) (i : Int) (j : Int)) (A ++ (Y ++ (X ++ B))) := by
  intro s
  induction s with
  | zero => intro A X Y B m i j h1 h2 h3; omega
  | succ s ih =>
    intro A X Y B m i j h1 h2 h3 h4 h5 h6 h7
    have hlen : A.length + X.length + Y.length < 4611686018427387904 := by simp at h7; omega
    have hmi : wrap64 ((m : Int) - i) = (A.length : Int) := by rw [w64 (by omega) (by omega)]; omega
    refine Ev.step (fun _ => slices_rotateCmpFunc_api_Change_at_run_byKey.l0.eq_2 ..) ?_
    rw [hmi]
    by_cases hij : i = j
    · have h := swr_ev X A [] Y B A.length m i (by omega) rfl (by simp; omega) h4 (by simpa using h7)
      simp only [List.nil_append] at h
      refine Ev.congr (fun k => if_pos (by omega)) (Ev.bind h ?_)
      exact Ev.now _
    · refine Ev.congr (fun k => if_neg (by omega)) ?_
      by_cases hgt : i > j
      · refine Ev.congr (fun k => if_pos (by omega)) ?_
        obtain ⟨X1, X2, rfl, hx⟩ := split_at X j (by omega)
        have h := swr_ev X1 A X2 Y B A.length m j (by omega) rfl (by simp at h4; omega) (by omega) (by simpa using h7)
        have hi := ih (A ++ Y) X2 X1 B m (i - j) j (by omega) (by omega) h3 (by simp at h4; omega) (by omega) (by simp; omega) (by simp at h7 ⊢; omega)
        rw [show (A ++ Y) ++ (X1 ++ (X2 ++ B)) = A ++ (Y ++ ((X1 ++ X2) ++ B)) by simp] at hi
        rw [show A ++ ((X1 ++ X2) ++ (Y ++ B)) = A ++ (X1 ++ (X2 ++ (Y ++ B))) by simp, w64 (x := (i : Int) - j) (by omega) (by omega)]
        refine Ev.bind h (Ev.congr (fun k => ?_) hi)
        congr 1
        · simp
        · omega
      · refine Ev.congr (fun k => if_neg (by omega)) ?_
        obtain ⟨Y1, Y2, rfl, hy⟩ := split_at Y (j - i) (by omega)
        have hy2 : Y2.length = i := by simp at h5; omega
        have h := swr_ev X A Y1 Y2 B A.length (m + (j - i)) i (by omega) rfl (by omega) h4 (by simpa using h7)
        have hi := ih A Y2 Y1 (X ++ B) m i (j - i) (by omega) h2 (by omega) hy2.symm hy.symm h6 (by simp at h7 ⊢; omega)
        rw [show A ++ (Y1 ++ (Y2 ++ (X ++ B))) = A ++ ((Y1 ++ Y2) ++ (X ++ B)) by simp] at hi
        rw [show A ++ (X ++ ((Y1 ++ Y2) ++ B)) = A ++ (X ++ (Y1 ++ (Y2 ++ B))) by simp, w64 (x := (j : Int) - i) (by omega) (by omega), w64 (x := (m : Int) + j) (by omega) (by omega), w64 (x := (m : Int) + j - i) (by omega) (by omega), show (m : Int) + j - i = ((m + (j - i) : Nat) : Int) by omega, show (j : Int) - i = ((j - i : Nat) : Int) by omega]
        exact Ev.bind h hi
theorem rot_ev (A X Y B : List S37) (a m b : Nat) (h1 : 0 < X.length) (h2 : 0 < Y.length) (h3 : a = A.length) (h4 : m = A.length + X.length) (h5 : b = m + Y.length) (h7 : (A ++ (X ++ (Y ++ B))).length < 4611686018427387904) :
    Ev (fun k => slices_rotateCmpFunc_api_Change_at_run_byKey.f k (A ++ (X ++ (Y ++ B))) (a : Int) (m : Int) (b : Int)) (A ++ (Y ++ (X ++ B))) := by
  unfold slices_rotateCmpFunc_api_Change_at_run_byKey.f
  have hlen : A.length + X.length + Y.length < 4611686018427387904 := by simp at h7; omega
  rw [w64 (x := (m : Int) - a) (by omega) (by omega), w64 (x := (b : Int) - m) (by omega) (by omega), show (m : Int) - a = (X.length : Int) by omega, show (b : Int) - m = (Y.length : Int) by omega]
  exact rot_l0 (X.length + Y.length) A X Y B m X.length Y.length (Nat.le_refl _) h1 h2 rfl rfl h4 h7
end Go.Proofs.Ytkkfkccfnfjbiaa.Sb
namespace Go.Proofs.Ytkkfkccfnfjbiaa.Sc
open Go.RowKit Go.Proofs.Ytkkfkccfnfjbiaa.PGr Go.Proofs.YtkkfkccfnfjbiaaW.PrintWords Go.Proofs.YtkkfkccfnfjbiaaW.PrintLast Go.Proofs.Ytkkfkccfnfjbiaa.Ra Go.Proofs.Ytkkfkccfnfjbiaa.Rb Go.Proofs.Ytkkfkccfnfjbiaa.Rc Go.Proofs.Ytkkfkccfnfjbiaa.Ka Go.Proofs.Ytkkfkccfnfjbiaa.Sa Go.Proofs.Ytkkfkccfnfjbiaa.Sb
set_option linter.unusedSimpArgs false
set_option linter.unusedVariables false
theorem rd_elA (l : List S37) (i : Nat) : rd_T37 l (i : Int) = elA l i := by unfold rd_T37 elA; rw [Int.toNat_natCast]
theorem elA_mid (P Q : List S37) (c : S37) (i : Nat) (h : i = P.length) (l : List S37) (hl : l = P ++ c :: Q) : elA l i = c := by
  subst h; subst hl
  unfold elA
  simp
theorem dn1 {i : Nat} (h : 0 < i) (h2 : i < 9223372036854775807) : wrap64 ((i : Int) - 1) = ((i - 1 : Nat) : Int) := by rw [w64 (by omega) (by omega)]; omega
theorem Srt.single (x : S37) : Srt [x] := List.pairwise_singleton _ _
theorem Srt.cons {x : S37} {T : List S37} (h : Srt T) (hx : ∀ t ∈ T, ¬ K t < K x) : Srt (x :: T) := List.pairwise_cons.2 ⟨hx, h⟩
theorem ins_l1 : ∀ (n : Nat) (A S T B : List S37) (x : S37) (a b i j : Nat), S.length = n → a = A.length → j = a + S.length → Srt (S ++ T) → (∀ t ∈ T, K x < K t) → (A ++ (S ++ x :: (T ++ B))).length < 4611686018427387904 → i < 4611686018427387904 →
    ∃ R, R.length = S.length + 1 + T.length ∧ Srt R ∧ Sim (S ++ x :: T) R ∧ ∀ out, Ev (fun k => slices_insertionSortCmpFunc_api_Change_at_run_byKey.l0 k (A ++ (R ++ B)) (a : Int) (b : Int) ((i + 1 : Nat) : Int)) out → Ev (fun k => slices_insertionSortCmpFunc_api_Change_at_run_byKey.l1 k (A ++ (S ++ x :: (T ++ B))) (a : Int) (b : Int) (i : Int) (j : Int)) out := by
  intro n
  induction n with
  | zero =>
    intro A S T B x a b i j hn ha hj hs hx hb hi
    obtain rfl : S = [] := List.eq_nil_of_length_eq_zero hn
    refine ⟨x :: T, by simp; omega, Srt.cons (by simpa using hs) (fun t ht h => List.lt_irrefl _ (List.lt_trans h (hx t ht))), Sim.refl _, fun out h => ?_⟩
    refine Ev.step (fun _ => slices_insertionSortCmpFunc_api_Change_at_run_byKey.l1.eq_2 ..) (Ev.congr (fun k => if_neg (by simp at hj; omega)) ?_)
    rw [up1 (by omega)]
    exact h
  | succ n ih =>
    intro A S T B x a b i j hn ha hj hs hx hb hi
    rcases List.eq_nil_or_concat S with rfl | ⟨S0, y, rfl⟩
    · simp at hn
    · rw [List.concat_eq_append] at *
      have hn0 : S0.length = n := by simp at hn; omega
      have hj0 : j = a + S0.length + 1 := by rw [hj]; simp; omega
      obtain ⟨l, hl⟩ : ∃ l, l = (A ++ S0) ++ y :: ([] ++ x :: (T ++ B)) := ⟨_, rfl⟩
      have e : A ++ ((S0 ++ [y]) ++ x :: (T ++ B)) = l := by rw [hl]; simp
      rw [e] at hb ⊢
      obtain ⟨p1, p2, p3, p4, _, p6⟩ := swap2 (A ++ S0) [] (T ++ B) y x (j - 1) j (by simp; omega) (by simp; omega) l hl
      by_cases hk : K x < K y
      · have hs' : Srt (S0 ++ (y :: T)) := by simpa using hs
        obtain ⟨R, h1, h2, h3, h4⟩ := ih A S0 (y :: T) B x a b i (j - 1) hn0 ha (by omega) hs' (fun t ht => by
          rcases List.mem_cons.1 ht with rfl | ht
          · exact hk
          · exact hx t ht) (by rw [hl] at hb; simp at hb ⊢; omega) hi
        refine ⟨R, by rw [h1]; simp; omega, h2, Sim.trans ?_ h3, fun out h => ?_⟩
        · have := Sim.mid S0 T (Sim.rot (u := [y]) (v := [x]) (by
            intro c hc d hd
            rw [List.mem_singleton.1 hc, List.mem_singleton.1 hd]
            intro e2
            rw [e2] at hk
            exact List.lt_irrefl _ hk))
          simpa using this
        · refine Ev.step (fun _ => slices_insertionSortCmpFunc_api_Change_at_run_byKey.l1.eq_2 ..) (Ev.congr (fun k => ?_) (h4 out h))
          rw [if_pos (by omega), dn1 (by omega) (by omega), if_pos (by omega), if_pos (by omega), if_pos (by omega), if_pos (by omega), p1, p2]
          show (run_byKey.f x.f0 x.f1 x.f2 y.f0 y.f1 y.f2).bind _ = _
          rw [by_key, Option.bind_some, if_pos ((neg_iff x y).2 hk), eta37, eta37, Int.toNat_natCast, Int.toNat_natCast, p6]
          congr 1
          simp
      · refine ⟨(S0 ++ [y]) ++ x :: T, by simp; omega, ?_, Sim.refl _, fun out h => ?_⟩
        · obtain ⟨q1, q2, q3⟩ := hs.parts
          refine Srt.app q1 (Srt.cons q2 (fun t ht h => List.lt_irrefl _ (List.lt_trans h (hx t ht)))) fun c hc d hd => ?_
          rcases List.mem_cons.1 hd with rfl | hd
          · have hcy : ¬ K y < K c := by
              rcases List.mem_append.1 hc with hc | hc
              · exact q1.parts.2.2 c hc y (by simp)
              · rw [List.mem_singleton.1 hc]; exact List.lt_irrefl _
            exact kle_trans hcy hk
          · exact q3 c hc d hd
        · refine Ev.step (fun _ => slices_insertionSortCmpFunc_api_Change_at_run_byKey.l1.eq_2 ..) (Ev.congr (fun k => ?_) h)
          rw [if_pos (by omega), dn1 (by omega) (by omega), if_pos (by omega), if_pos (by omega), if_pos (by omega), if_pos (by omega), p1, p2]
          show (run_byKey.f x.f0 x.f1 x.f2 y.f0 y.f1 y.f2).bind _ = _
          rw [by_key, Option.bind_some, if_neg (fun h => hk ((neg_iff x y).1 h)), up1 (by omega)]
          congr 1
          rw [← e]; simp
theorem ins_l0 : ∀ (U A S B : List S37) (a b i : Nat), a = A.length → i = a + S.length → b = i + U.length → Srt S → (A ++ (S ++ (U ++ B))).length < 4611686018427387904 →
    ∃ R, R.length = S.length + U.length ∧ Srt R ∧ Sim (S ++ U) R ∧ Ev (fun k => slices_insertionSortCmpFunc_api_Change_at_run_byKey.l0 k (A ++ (S ++ (U ++ B))) (a : Int) (b : Int) (i : Int)) (A ++ (R ++ B))
  | [], A, S, B, a, b, i, ha, hi, hb, hs, hl => by
    refine ⟨S, by simp, hs, by simpa using Sim.refl S, ?_⟩
    refine Ev.step (fun _ => slices_insertionSortCmpFunc_api_Change_at_run_byKey.l0.eq_2 ..) (Ev.congr (fun k => if_neg (by simp at hb; omega)) ?_)
    exact Ev.now _
  | x :: U, A, S, B, a, b, i, ha, hi, hb, hs, hl => by
    have hl' : A.length + S.length + U.length + 1 < 4611686018427387904 := by simp at hl; omega
    obtain ⟨R1, h1, h2, h3, h4⟩ := ins_l1 S.length A S [] (U ++ B) x a b i i rfl ha hi (by simpa using hs) (fun t ht => by cases ht) (by simpa using hl) (by omega)
    obtain ⟨R, k1, k2, k3, k4⟩ := ins_l0 U A R1 B a b (i + 1) ha (by rw [h1, hi]; simp; omega) (by rw [hb]; simp; omega) h2 (by simp at hl ⊢; rw [h1]; simp; omega)
    refine ⟨R, by rw [k1, h1]; simp; omega, k2, ?_, ?_⟩
    · refine Sim.trans ?_ k3
      have := Sim.app h3 (Sim.refl U)
      simpa using this
    · refine Ev.step (fun _ => slices_insertionSortCmpFunc_api_Change_at_run_byKey.l0.eq_2 ..) (Ev.congr (fun k => ?_) (h4 _ k4))
      rw [if_pos (by simp at hb; omega)]
      rfl
theorem ins_ev (A U B : List S37) (a b : Nat) (ha : a = A.length) (hb : b = a + U.length) (hl : (A ++ (U ++ B)).length < 4611686018427387904) :
    ∃ R, R.length = U.length ∧ Srt R ∧ Sim U R ∧ Ev (fun k => slices_insertionSortCmpFunc_api_Change_at_run_byKey.f k (A ++ (U ++ B)) (a : Int) (b : Int)) (A ++ (R ++ B)) := by
  have hl' : A.length + U.length < 4611686018427387904 := by simp at hl; omega
  unfold slices_insertionSortCmpFunc_api_Change_at_run_byKey.f
  rw [up1 (by omega)]
  cases U with
  | nil =>
    refine ⟨[], rfl, List.Pairwise.nil, Sim.refl _, ?_⟩
    refine Ev.step (fun _ => slices_insertionSortCmpFunc_api_Change_at_run_byKey.l0.eq_2 ..) (Ev.congr (fun k => if_neg (by simp at hb; omega)) ?_)
    exact Ev.now _
  | cons c U =>
    obtain ⟨R, h1, h2, h3, h4⟩ := ins_l0 U A [c] B a b (a + 1) ha rfl (by rw [hb]; simp; omega) (Srt.single c) (by simpa using hl)
    exact ⟨R, by rw [h1]; simp; omega, h2, by simpa using h3, by simpa using h4⟩
end Go.Proofs.Ytkkfkccfnfjbiaa.Sc
namespace Go.Proofs.Ytkkfkccfnfjbiaa.Sd
open Go.RowKit Go.Proofs.Ytkkfkccfnfjbiaa.PGr Go.Proofs.YtkkfkccfnfjbiaaW.PrintWords Go.Proofs.YtkkfkccfnfjbiaaW.PrintLast Go.Proofs.Ytkkfkccfnfjbiaa.Ra Go.Proofs.Ytkkfkccfnfjbiaa.Rb Go.Proofs.Ytkkfkccfnfjbiaa.Rc Go.Proofs.Ytkkfkccfnfjbiaa.Ka Go.Proofs.Ytkkfkccfnfjbiaa.Sa Go.Proofs.Ytkkfkccfnfjbiaa.Sb Go.Proofs.Ytkkfkccfnfjbiaa.Sc
set_option linter.unusedSimpArgs false
set_option linter.unusedVariables false
theorem last_lt {V : List S37} (hs : Srt V) (q : List UInt8) (h : ∀ v V', V = V' ++ [v] → K v < q) : ∀ c ∈ V, K c < q := by
  rcases List.eq_nil_or_concat V with rfl | ⟨V', v, rfl⟩
  · intro c hc; cases hc
  · rw [List.concat_eq_append] at *
    have h1 := h v V' rfl
    intro c hc
    rcases List.mem_append.1 hc with hc | hc
    · exact klt_of (hs.parts.2.2 c hc v (by simp)) h1
    · rw [List.mem_singleton.1 hc]; exact h1
theorem last_le {V : List S37} (hs : Srt V) (q : List UInt8) (h : ∀ v V', V = V' ++ [v] → ¬ q < K v) : ∀ c ∈ V, ¬ q < K c := by
  rcases List.eq_nil_or_concat V with rfl | ⟨V', v, rfl⟩
  · intro c hc; cases hc
  · rw [List.concat_eq_append] at *
    have h1 := h v V' rfl
    intro c hc
    rcases List.mem_append.1 hc with hc | hc
    · exact kle_trans (hs.parts.2.2 c hc v (by simp)) h1
    · rw [List.mem_singleton.1 hc]; exact h1
theorem lt_of_lt_le {a b c : List UInt8} (h : a < b) (k : ¬ c < b) : a < c := by
  by_cases h2 : a < c
  · exact h2
  · exact absurd (klt_of h2 h) k
theorem first_gt {V : List S37} (hs : Srt V) (q : List UInt8) (h : ∀ v V', V = v :: V' → q < K v) : ∀ c ∈ V, q < K c := by
  cases V with
  | nil => intro c hc; cases hc
  | cons v V =>
    have h1 := h v V rfl
    intro c hc
    rcases List.mem_cons.1 hc with rfl | hc
    · exact h1
    · exact lt_of_lt_le h1 ((List.pairwise_cons.1 hs).1 c hc)
theorem first_ge {V : List S37} (hs : Srt V) (q : List UInt8) (h : ∀ v V', V = v :: V' → ¬ K v < q) : ∀ c ∈ V, ¬ K c < q := by
  cases V with
  | nil => intro c hc; cases hc
  | cons v V =>
    have h1 := h v V rfl
    intro c hc
    rcases List.mem_cons.1 hc with rfl | hc
    · exact h1
    · exact kle_trans h1 ((List.pairwise_cons.1 hs).1 c hc)
theorem le_of_lt {a b : List UInt8} (h : a < b) : ¬ b < a := fun k => List.lt_irrefl _ (List.lt_trans h k)
theorem s0 (D : List S37) (a m b : Nat) (hb : b ≤ D.length) (ha : a < D.length) (hD : D.length < 2305843009213693952) : ∀ (n i j : Nat), j - i ≤ n → i ≤ j → m ≤ i → j ≤ b → (i = m ∨ K (elA D (i - 1)) < K (elA D a)) → (j = b ∨ ¬ K (elA D j) < K (elA D a)) →
    ∃ q, m ≤ q ∧ q ≤ b ∧ (q = m ∨ K (elA D (q - 1)) < K (elA D a)) ∧ (q = b ∨ ¬ K (elA D q) < K (elA D a)) ∧ ∀ out, Ev (fun k => slices_symMergeCmpFunc_api_Change_at_run_byKey.l1 k D (q : Int) (a : Int)) out → Ev (fun k => slices_symMergeCmpFunc_api_Change_at_run_byKey.l0 k D (a : Int) (i : Int) (j : Int)) out := by
  intro n
  induction n with
  | zero =>
    intro i j h hij hi hj h1 h2
    obtain rfl : i = j := by omega
    exact ⟨i, hi, hj, h1, h2, fun out h => Ev.step (fun _ => slices_symMergeCmpFunc_api_Change_at_run_byKey.l0.eq_2 ..) (Ev.congr (fun k => if_neg (by omega)) h)⟩
  | succ n ih =>
    intro i j h hij hi hj h1 h2
    by_cases he : i = j
    · subst he
      exact ⟨i, hi, hj, h1, h2, fun out h => Ev.step (fun _ => slices_symMergeCmpFunc_api_Change_at_run_byKey.l0.eq_2 ..) (Ev.congr (fun k => if_neg (by omega)) h)⟩
    · have hm := half (i := i) (j := j) (by omega)
      obtain ⟨c, hc⟩ : ∃ c, (i + j) / 2 = c := ⟨_, rfl⟩
      rw [hc] at hm
      by_cases hk : K (elA D c) < K (elA D a)
      · obtain ⟨q, q1, q2, q3, q4, q5⟩ := ih (c + 1) j (by omega) (by omega) (by omega) hj (.inr (by rw [show c + 1 - 1 = c by omega]; exact hk)) h2
        refine ⟨q, q1, q2, q3, q4, fun out h => Ev.step (fun _ => slices_symMergeCmpFunc_api_Change_at_run_byKey.l0.eq_2 ..) (Ev.congr (fun k => ?_) (q5 out h))⟩
        rw [if_pos (by omega), hm, if_pos (by omega), if_pos (by omega), if_pos (by omega), if_pos (by omega), rd_elA, rd_elA]
        show (run_byKey.f (elA D c).f0 (elA D c).f1 (elA D c).f2 (elA D a).f0 (elA D a).f1 (elA D a).f2).bind _ = _
        rw [by_key, Option.bind_some, if_pos ((neg_iff _ _).2 hk), up1 (by omega)]
      · obtain ⟨q, q1, q2, q3, q4, q5⟩ := ih i c (by omega) (by omega) hi (by omega) h1 (.inr hk)
        refine ⟨q, q1, q2, q3, q4, fun out h => Ev.step (fun _ => slices_symMergeCmpFunc_api_Change_at_run_byKey.l0.eq_2 ..) (Ev.congr (fun k => ?_) (q5 out h))⟩
        rw [if_pos (by omega), hm, if_pos (by omega), if_pos (by omega), if_pos (by omega), if_pos (by omega), rd_elA, rd_elA]
        show (run_byKey.f (elA D c).f0 (elA D c).f1 (elA D c).f2 (elA D a).f0 (elA D a).f1 (elA D a).f2).bind _ = _
        rw [by_key, Option.bind_some, if_neg (fun h => hk ((neg_iff _ _).1 h))]
theorem s2 (D : List S37) (a m : Nat) (hm0 : m < D.length) (hD : D.length < 2305843009213693952) : ∀ (n i j : Nat), j - i ≤ n → i ≤ j → a ≤ i → j ≤ m → (i = a ∨ ¬ K (elA D m) < K (elA D (i - 1))) → (j = m ∨ K (elA D m) < K (elA D j)) →
    ∃ q, a ≤ q ∧ q ≤ m ∧ (q = a ∨ ¬ K (elA D m) < K (elA D (q - 1))) ∧ (q = m ∨ K (elA D m) < K (elA D q)) ∧ ∀ out, Ev (fun k => slices_symMergeCmpFunc_api_Change_at_run_byKey.l3 k D (q : Int) (m : Int)) out → Ev (fun k => slices_symMergeCmpFunc_api_Change_at_run_byKey.l2 k D (m : Int) (i : Int) (j : Int)) out := by
  intro n
  induction n with
  | zero =>
    intro i j h hij hi hj h1 h2
    obtain rfl : i = j := by omega
    exact ⟨i, hi, hj, h1, h2, fun out h => Ev.step (fun _ => slices_symMergeCmpFunc_api_Change_at_run_byKey.l2.eq_2 ..) (Ev.congr (fun k => if_neg (by omega)) h)⟩
  | succ n ih =>
    intro i j h hij hi hj h1 h2
    by_cases he : i = j
    · subst he
      exact ⟨i, hi, hj, h1, h2, fun out h => Ev.step (fun _ => slices_symMergeCmpFunc_api_Change_at_run_byKey.l2.eq_2 ..) (Ev.congr (fun k => if_neg (by omega)) h)⟩
    · have hm := half (i := i) (j := j) (by omega)
      obtain ⟨c, hc⟩ : ∃ c, (i + j) / 2 = c := ⟨_, rfl⟩
      rw [hc] at hm
      by_cases hk : K (elA D m) < K (elA D c)
      · obtain ⟨q, q1, q2, q3, q4, q5⟩ := ih i c (by omega) (by omega) hi (by omega) h1 (.inr hk)
        refine ⟨q, q1, q2, q3, q4, fun out h => Ev.step (fun _ => slices_symMergeCmpFunc_api_Change_at_run_byKey.l2.eq_2 ..) (Ev.congr (fun k => ?_) (q5 out h))⟩
        rw [if_pos (by omega), hm, if_pos (by omega), if_pos (by omega), if_pos (by omega), if_pos (by omega), rd_elA, rd_elA]
        show (run_byKey.f (elA D m).f0 (elA D m).f1 (elA D m).f2 (elA D c).f0 (elA D c).f1 (elA D c).f2).bind _ = _
        rw [by_key, Option.bind_some, if_pos ((neg_iff _ _).2 hk)]
      · obtain ⟨q, q1, q2, q3, q4, q5⟩ := ih (c + 1) j (by omega) (by omega) (by omega) hj (.inr (by rw [show c + 1 - 1 = c by omega]; exact hk)) h2
        refine ⟨q, q1, q2, q3, q4, fun out h => Ev.step (fun _ => slices_symMergeCmpFunc_api_Change_at_run_byKey.l2.eq_2 ..) (Ev.congr (fun k => ?_) (q5 out h))⟩
        rw [if_pos (by omega), hm, if_pos (by omega), if_pos (by omega), if_pos (by omega), if_pos (by omega), rd_elA, rd_elA]
        show (run_byKey.f (elA D m).f0 (elA D m).f1 (elA D m).f2 (elA D c).f0 (elA D c).f1 (elA D c).f2).bind _ = _
        rw [by_key, Option.bind_some, if_neg (fun h => hk ((neg_iff _ _).1 h)), up1 (by omega)]
theorem s4 (D : List S37) (a m b mid n t r : Nat) (hn : n = mid + m) (hr : r ≤ m) (hrm : r ≤ mid) (hlo : n ≤ b + t) (hmb : m ≤ b) (hb : b ≤ D.length) (hD : D.length < 1152921504606846976) (hmid : mid < D.length) : ∀ (s i j : Nat), j - i ≤ s → i ≤ j → t ≤ i → j ≤ r → (i = t ∨ ¬ K (elA D (n - i)) < K (elA D (i - 1))) → (j = r ∨ K (elA D (n - 1 - j)) < K (elA D j)) →
    ∃ q, t ≤ q ∧ q ≤ r ∧ (q = t ∨ ¬ K (elA D (n - q)) < K (elA D (q - 1))) ∧ (q = r ∨ K (elA D (n - 1 - q)) < K (elA D q)) ∧ ∀ out, Ev (fun k => slices_symMergeCmpFunc_api_Change_at_run_byKey.j6 k D (a : Int) (m : Int) (b : Int) (mid : Int) (q : Int) ((n - q : Nat) : Int) (decide (q < m) && decide (m < n - q))) out → Ev (fun k => slices_symMergeCmpFunc_api_Change_at_run_byKey.l4 k D (a : Int) (m : Int) (b : Int) (mid : Int) (n : Int) (i : Int) (j : Int) ((n : Int) - 1)) out := by
  have fin : ∀ i : Nat, i ≤ r → ∀ out, Ev (fun k => slices_symMergeCmpFunc_api_Change_at_run_byKey.j6 k D (a : Int) (m : Int) (b : Int) (mid : Int) (i : Int) ((n - i : Nat) : Int) (decide (i < m) && decide (m < n - i))) out → Ev (fun k => slices_symMergeCmpFunc_api_Change_at_run_byKey.l4 k D (a : Int) (m : Int) (b : Int) (mid : Int) (n : Int) (i : Int) (i : Int) ((n : Int) - 1)) out := by
    intro i hi out h
    refine Ev.step (fun _ => slices_symMergeCmpFunc_api_Change_at_run_byKey.l4.eq_2 ..) (Ev.congr (fun k => ?_) h)
    rw [if_neg (by omega), w64 (x := (n : Int) - i) (by omega) (by omega), show (n : Int) - i = ((n - i : Nat) : Int) by omega]
    by_cases h1 : i < m
    · rw [if_pos (by omega)]
      congr 1
      simp only [h1, decide_true, Bool.true_and]
      exact decide_eq_decide.2 (by omega)
    · rw [if_neg (by omega)]
      congr 1
      simp [h1]
  intro s
  induction s with
  | zero =>
    intro i j h hij hi hj h1 h2
    obtain rfl : i = j := by omega
    exact ⟨i, hi, hj, h1, h2, fin i hj⟩
  | succ s ih =>
    intro i j h hij hi hj h1 h2
    by_cases he : i = j
    · subst he
      exact ⟨i, hi, hj, h1, h2, fin i hj⟩
    · have hm := half (i := i) (j := j) (by omega)
      obtain ⟨c, hc⟩ : ∃ c, (i + j) / 2 = c := ⟨_, rfl⟩
      rw [hc] at hm
      have hpc : wrap64 ((n : Int) - 1 - (c : Int)) = ((n - 1 - c : Nat) : Int) := by rw [w64 (by omega) (by omega)]; omega
      by_cases hk : K (elA D (n - 1 - c)) < K (elA D c)
      · obtain ⟨q, q1, q2, q3, q4, q5⟩ := ih i c (by omega) (by omega) hi (by omega) h1 (.inr hk)
        refine ⟨q, q1, q2, q3, q4, fun out h => Ev.step (fun _ => slices_symMergeCmpFunc_api_Change_at_run_byKey.l4.eq_2 ..) (Ev.congr (fun k => ?_) (q5 out h))⟩
        rw [if_pos (by omega), hm, hpc, if_pos (by omega), if_pos (by omega), if_pos (by omega), if_pos (by omega), rd_elA, rd_elA]
        show (run_byKey.f (elA D (n - 1 - c)).f0 (elA D (n - 1 - c)).f1 (elA D (n - 1 - c)).f2 (elA D c).f0 (elA D c).f1 (elA D c).f2).bind _ = _
        rw [by_key, Option.bind_some, if_pos ((neg_iff _ _).2 hk)]
      · obtain ⟨q, q1, q2, q3, q4, q5⟩ := ih (c + 1) j (by omega) (by omega) (by omega) hj (.inr (by rw [show c + 1 - 1 = c by omega, show n - (c + 1) = n - 1 - c by omega]; exact hk)) h2
        refine ⟨q, q1, q2, q3, q4, fun out h => Ev.step (fun _ => slices_symMergeCmpFunc_api_Change_at_run_byKey.l4.eq_2 ..) (Ev.congr (fun k => ?_) (q5 out h))⟩
        rw [if_pos (by omega), hm, hpc, if_pos (by omega), if_pos (by omega), if_pos (by omega), if_pos (by omega), rd_elA, rd_elA]
        show (run_byKey.f (elA D (n - 1 - c)).f0 (elA D (n - 1 - c)).f1 (elA D (n - 1 - c)).f2 (elA D c).f0 (elA D c).f1 (elA D c).f2).bind _ = _
        rw [by_key, Option.bind_some, if_neg (fun h => hk ((neg_iff _ _).1 h)), up1 (by omega)]
theorem mv1 : ∀ (V A R : List S37) (x : S37) (q p : Nat), p = A.length → q = p + 1 + V.length → (A ++ x :: (V ++ R)).length < 2305843009213693952 → Ev (fun k => slices_symMergeCmpFunc_api_Change_at_run_byKey.l1 k (A ++ x :: (V ++ R)) (q : Int) (p : Int)) (A ++ (V ++ x :: R))
  | [], A, R, x, q, p, hp, hq, hl => by
    have hl' : A.length < 2305843009213693952 := by simp at hl; omega
    refine Ev.step (fun _ => slices_symMergeCmpFunc_api_Change_at_run_byKey.l1.eq_2 ..) (Ev.congr (fun k => ?_) (Ev.now _))
    rw [if_neg (by simp at hq; rw [w64 (by omega) (by omega)]; omega)]
    simp
  | v :: V, A, R, x, q, p, hp, hq, hl => by
    have hl' : A.length + V.length < 2305843009213693952 := by simp at hl; omega
    have ih := mv1 V (A ++ [v]) R x q (p + 1) (by simp; omega) (by simp at hq; omega) (by simp at hl ⊢; omega)
    rw [show (A ++ [v]) ++ (V ++ x :: R) = A ++ ((v :: V) ++ x :: R) by simp] at ih
    obtain ⟨l, hl2⟩ : ∃ l, l = A ++ x :: ([] ++ v :: (V ++ R)) := ⟨_, rfl⟩
    have e : A ++ x :: ((v :: V) ++ R) = l := by rw [hl2]; simp
    rw [e]
    obtain ⟨p1, p2, p3, p4, p5, _⟩ := swap2 A [] (V ++ R) x v p (p + 1) hp (by simp; omega) l hl2
    simp at hq
    refine Ev.step (fun _ => slices_symMergeCmpFunc_api_Change_at_run_byKey.l1.eq_2 ..) (Ev.congr (fun k => ?_) ih)
    rw [w64 (x := (q : Int) - 1) (by omega) (by omega), if_pos (by omega), up1 (by omega), if_pos (by omega), if_pos (by omega), if_pos (by omega), if_pos (by omega), p1, p2, eta37, eta37, Int.toNat_natCast, Int.toNat_natCast, p5]
    congr 1
    simp
theorem mv3 : ∀ (n : Nat) (A U B : List S37) (y : S37) (q p : Nat), U.length = n → q = A.length → p = q + U.length → (A ++ (U ++ y :: B)).length < 2305843009213693952 → Ev (fun k => slices_symMergeCmpFunc_api_Change_at_run_byKey.l3 k (A ++ (U ++ y :: B)) (q : Int) (p : Int)) (A ++ y :: (U ++ B)) := by
  intro n
  induction n with
  | zero =>
    intro A U B y q p hn hq hp hl
    obtain rfl : U = [] := List.eq_nil_of_length_eq_zero hn
    refine Ev.step (fun _ => slices_symMergeCmpFunc_api_Change_at_run_byKey.l3.eq_2 ..) (Ev.congr (fun k => if_neg (by simp at hp; omega)) ?_)
    exact Ev.now _
  | succ n ih =>
    intro A U B y q p hn hq hp hl
    rcases List.eq_nil_or_concat U with rfl | ⟨U, u, rfl⟩
    · simp at hn
    · rw [List.concat_eq_append] at *
      have hl' : A.length + U.length < 2305843009213693952 := by simp at hl; omega
      have hp' : p = q + U.length + 1 := by simp at hp; omega
      have h := ih A U (u :: B) y q (p - 1) (by simp at hn; omega) hq (by omega) (by simp at hl ⊢; omega)
      rw [show A ++ y :: (U ++ u :: B) = A ++ y :: ((U ++ [u]) ++ B) by simp] at h
      obtain ⟨l, hl2⟩ : ∃ l, l = (A ++ U) ++ u :: ([] ++ y :: B) := ⟨_, rfl⟩
      have e : A ++ ((U ++ [u]) ++ y :: B) = l := by rw [hl2]; simp
      rw [e]
      obtain ⟨p1, p2, p3, p4, _, p6⟩ := swap2 (A ++ U) [] B u y (p - 1) p (by simp; omega) (by simp; omega) l hl2
      refine Ev.step (fun _ => slices_symMergeCmpFunc_api_Change_at_run_byKey.l3.eq_2 ..) (Ev.congr (fun k => ?_) h)
      rw [if_pos (by omega), dn1 (by omega) (by omega), if_pos (by omega), if_pos (by omega), if_pos (by omega), if_pos (by omega), p1, p2, eta37, eta37, Int.toNat_natCast, Int.toNat_natCast, p6]
      congr 1
      simp
end Go.Proofs.Ytkkfkccfnfjbiaa.Sd
namespace Go.Proofs.Ytkkfkccfnfjbiaa.Se
open Go.RowKit Go.Proofs.Ytkkfkccfnfjbiaa.PGr Go.Proofs.YtkkfkccfnfjbiaaW.PrintWords Go.Proofs.YtkkfkccfnfjbiaaW.PrintLast Go.Proofs.Ytkkfkccfnfjbiaa.Ra Go.Proofs.Ytkkfkccfnfjbiaa.Rb Go.Proofs.Ytkkfkccfnfjbiaa.Rc Go.Proofs.Ytkkfkccfnfjbiaa.Ka Go.Proofs.Ytkkfkccfnfjbiaa.Sa Go.Proofs.Ytkkfkccfnfjbiaa.Sb Go.Proofs.Ytkkfkccfnfjbiaa.Sc Go.Proofs.Ytkkfkccfnfjbiaa.Sd
set_option linter.unusedSimpArgs false
set_option linter.unusedVariables false
/-- The merges of both halves. -/
theorem halves (A U1 V1 U2 V2 B : List S37) (a b mid q e : Nat) (ha : a = A.length) (hq : q = a + U1.length) (hmid : mid = q + V1.length) (he : e = mid + U2.length) (hb : b = e + V2.length) (hs1 : Srt U1) (hs2 : Srt V1) (hs3 : Srt U2) (hs4 : Srt V2)
    (hl : (A ++ (U1 ++ (V1 ++ (U2 ++ (V2 ++ B))))).length < 1152921504606846976)
    (ih : ∀ (A U V B : List S37) (a m b : Nat), U.length + V.length < U1.length + V1.length + (U2.length + V2.length) → 0 < U.length → 0 < V.length → Srt U → Srt V → a = A.length → m = a + U.length → b = m + V.length → (A ++ (U ++ (V ++ B))).length < 1152921504606846976 → ∃ R, R.length = U.length + V.length ∧ Srt R ∧ Sim (U ++ V) R ∧ Ev (fun k => slices_symMergeCmpFunc_api_Change_at_run_byKey.f k (A ++ (U ++ (V ++ B))) (a : Int) (m : Int) (b : Int)) (A ++ (R ++ B)))
    (hp1 : 0 < U1.length + V1.length) (hp2 : 0 < U2.length + V2.length) :
    ∃ RL RR, RL.length = U1.length + V1.length ∧ RR.length = U2.length + V2.length ∧ Srt RL ∧ Srt RR ∧ Sim (U1 ++ V1) RL ∧ Sim (U2 ++ V2) RR ∧ Ev (fun k => slices_symMergeCmpFunc_api_Change_at_run_byKey.j7 k (A ++ (U1 ++ (V1 ++ (U2 ++ (V2 ++ B))))) (a : Int) (b : Int) (mid : Int) (q : Int) (e : Int)) (A ++ ((RL ++ RR) ++ B)) := by
  obtain ⟨RL, l1, l2, l3, l4, l5⟩ : ∃ RL, RL.length = U1.length + V1.length ∧ Srt RL ∧ Sim (U1 ++ V1) RL ∧ (a < q ∧ q < mid → Ev (fun k => slices_symMergeCmpFunc_api_Change_at_run_byKey.f k (A ++ (U1 ++ (V1 ++ (U2 ++ (V2 ++ B))))) (a : Int) (q : Int) (mid : Int)) (A ++ (RL ++ (U2 ++ (V2 ++ B))))) ∧ (¬ (a < q ∧ q < mid) → RL = U1 ++ V1) := by
    by_cases h : a < q ∧ q < mid
    · obtain ⟨R, h1, h2, h3, h4⟩ := ih A U1 V1 (U2 ++ (V2 ++ B)) a q mid (by omega) (by omega) (by omega) hs1 hs2 ha hq hmid hl
      exact ⟨R, h1, h2, h3, fun _ => h4, fun h5 => absurd h h5⟩
    · refine ⟨U1 ++ V1, by simp, ?_, Sim.refl _, fun h5 => absurd h5 h, fun _ => rfl⟩
      by_cases h6 : U1.length = 0
      · rw [List.eq_nil_of_length_eq_zero h6]; exact hs2
      · rw [List.eq_nil_of_length_eq_zero (l := V1) (by omega), List.append_nil]; exact hs1
  obtain ⟨RR, r1, r2, r3, r4, r5⟩ : ∃ RR, RR.length = U2.length + V2.length ∧ Srt RR ∧ Sim (U2 ++ V2) RR ∧ (mid < e ∧ e < b → Ev (fun k => slices_symMergeCmpFunc_api_Change_at_run_byKey.f k (A ++ (RL ++ (U2 ++ (V2 ++ B)))) (mid : Int) (e : Int) (b : Int)) (A ++ ((RL ++ RR) ++ B))) ∧ (¬ (mid < e ∧ e < b) → RR = U2 ++ V2) := by
    by_cases h : mid < e ∧ e < b
    · obtain ⟨R, h1, h2, h3, h4⟩ := ih (A ++ RL) U2 V2 B mid e b (by omega) (by omega) (by omega) hs3 hs4 (by simp; omega) he hb (by simp at hl ⊢; omega)
      exact ⟨R, h1, h2, h3, fun _ => by simpa using h4, fun h5 => absurd h h5⟩
    · refine ⟨U2 ++ V2, by simp, ?_, Sim.refl _, fun h5 => absurd h5 h, fun _ => rfl⟩
      by_cases h6 : U2.length = 0
      · rw [List.eq_nil_of_length_eq_zero h6]; exact hs4
      · rw [List.eq_nil_of_length_eq_zero (l := V2) (by omega), List.append_nil]; exact hs3
  refine ⟨RL, RR, l1, r1, l2, r2, l3, r3, ?_⟩
  have hright : ∀ g : Nat → Option (List S37), (∀ k, g k = if (mid : Int) < (e : Int) then (if (e : Int) < (b : Int) then ((slices_symMergeCmpFunc_api_Change_at_run_byKey.f k (A ++ (RL ++ (U2 ++ (V2 ++ B)))) (mid : Int) (e : Int) (b : Int)).bind fun t => some t) else some (A ++ (RL ++ (U2 ++ (V2 ++ B))))) else some (A ++ (RL ++ (U2 ++ (V2 ++ B))))) → Ev g (A ++ ((RL ++ RR) ++ B)) := by
    intro g hg
    by_cases h1 : mid < e
    · by_cases h2 : e < b
      · refine Ev.congr (fun k => ?_) (Ev.bind (f := fun _ t => some t) (r4 ⟨h1, h2⟩) (Ev.now _))
        rw [hg, if_pos (by omega), if_pos (by omega)]
      · refine Ev.congr (fun k => ?_) (Ev.now (A ++ ((RL ++ RR) ++ B)))
        rw [hg, if_pos (by omega), if_neg (by omega), r5 (by omega)]
        simp
    · refine Ev.congr (fun k => ?_) (Ev.now (A ++ ((RL ++ RR) ++ B)))
      rw [hg, if_neg (by omega), r5 (by omega)]
      simp
  have hj8 : Ev (fun k => slices_symMergeCmpFunc_api_Change_at_run_byKey.j8 k (A ++ (U1 ++ (V1 ++ (U2 ++ (V2 ++ B))))) (a : Int) (b : Int) (mid : Int) (q : Int) (e : Int) (decide (a < q) && decide (q < mid))) (A ++ ((RL ++ RR) ++ B)) := by
    refine Ev.step (fun _ => slices_symMergeCmpFunc_api_Change_at_run_byKey.j8.eq_2 ..) ?_
    by_cases h : a < q ∧ q < mid
    · have hf : (decide (a < q) && decide (q < mid)) = true := by simp [h.1, h.2]
      rw [hf]
      exact Ev.congr (fun k => if_pos rfl) (Ev.bind (l4 h) (hright _ (fun k => rfl)))
    · have hf : (decide (a < q) && decide (q < mid)) = false := by
        rw [Bool.and_eq_false_iff, decide_eq_false_iff_not, decide_eq_false_iff_not]; omega
      rw [hf]
      refine Ev.congr (fun k => if_neg (by decide)) (hright _ (fun k => ?_))
      rw [l5 h]
      simp only [List.append_assoc]
  refine Ev.step (fun _ => slices_symMergeCmpFunc_api_Change_at_run_byKey.j7.eq_2 ..) (Ev.congr (fun k => ?_) hj8)
  by_cases h1 : a < q
  · rw [if_pos (by omega)]
    congr 1
    simp only [h1, decide_true, Bool.true_and]
    exact decide_eq_decide.2 (by omega)
  · rw [if_neg (by omega)]
    congr 1
    simp [h1]
set_option maxHeartbeats 4000000 in
theorem sym_1 (A V B : List S37) (x : S37) (a m b : Nat) (h2 : 0 < V.length) (hv : Srt V) (ha : a = A.length) (hm : m = a + [x].length) (hb : b = m + V.length) (hl : (A ++ ([x] ++ (V ++ B))).length < 1152921504606846976) :
    ∃ R, R.length = [x].length + V.length ∧ Srt R ∧ Sim ([x] ++ V) R ∧ Ev (fun k => slices_symMergeCmpFunc_api_Change_at_run_byKey.f k (A ++ ([x] ++ (V ++ B))) (a : Int) (m : Int) (b : Int)) (A ++ (R ++ B)) := by
  have hone : ([x] : List S37).length = 1 := rfl
  have hl' : A.length + [x].length + V.length < 1152921504606846976 := by simp at hl; omega
  obtain ⟨D, hD⟩ : ∃ D, D = A ++ ([x] ++ (V ++ B)) := ⟨_, rfl⟩
  have hDl : D.length = A.length + [x].length + V.length + B.length := by rw [hD]; simp; omega
  have hDb : D.length < 1152921504606846976 := by rw [hD]; exact hl
  have hDx : D = A ++ x :: (V ++ B) := by rw [hD]; simp
  have hDa : elA D a = x := elA_mid A (V ++ B) x a ha D hDx
  obtain ⟨q, q1, q2, q3, q4, q5⟩ := s0 D a m b (by omega) (by omega) (by omega) (b - m) m b (Nat.le_refl _) (by omega) (Nat.le_refl _) (Nat.le_refl _) (.inl rfl) (.inl rfl)
  rw [hDa] at q3 q4
  obtain ⟨V1, V2, rfl, hV1⟩ := split_at V (q - m) (by omega)
  obtain ⟨g1, g2, g3⟩ := hv.parts
  have hm1 : m = a + 1 := hm
  have hlt : ∀ c ∈ V1, K c < K x := last_lt g1 (K x) fun v V' e => by
    subst e
    rcases q3 with q3 | q3
    · simp at hV1; omega
    · rw [elA_mid (A ++ x :: V') (V2 ++ B) v (q - 1) (by simp at hV1 ⊢; omega) D (by rw [hDx]; simp)] at q3
      exact q3
  have hge : ∀ c ∈ V2, ¬ K c < K x := first_ge g2 (K x) fun v V' e => by
    subst e
    rcases q4 with q4 | q4
    · simp at hb; omega
    · rw [elA_mid (A ++ x :: V1) (V' ++ B) v q (by simp; omega) D (by rw [hDx]; simp)] at q4
      exact q4
  refine ⟨V1 ++ x :: V2, by simp; omega, ?_, ?_, ?_⟩
  · refine Srt.app g1 (Srt.cons g2 hge) fun c hc d hd => ?_
    rcases List.mem_cons.1 hd with rfl | hd
    · exact le_of_lt (hlt c hc)
    · exact g3 c hc d hd
  · have := Sim.app (Sim.rot (u := [x]) (v := V1) (by
      intro c hc d hd
      rw [List.mem_singleton.1 hc]
      intro e
      exact List.lt_irrefl _ (e ▸ hlt d hd))) (Sim.refl V2)
    simpa using this
  · rw [← hD]
    have hmv := mv1 V1 A (V2 ++ B) x q a ha (by omega) (by rw [show A ++ x :: (V1 ++ (V2 ++ B)) = D by rw [hDx]; simp]; omega)
    rw [show A ++ x :: (V1 ++ (V2 ++ B)) = D by rw [hDx]; simp, show A ++ (V1 ++ x :: (V2 ++ B)) = A ++ ((V1 ++ x :: V2) ++ B) by simp] at hmv
    refine Ev.step (fun _ => slices_symMergeCmpFunc_api_Change_at_run_byKey.f.eq_2 ..) (Ev.congr (fun k => ?_) (q5 _ hmv))
    rw [if_pos (by rw [w64 (by omega) (by omega)]; omega)]
set_option maxHeartbeats 4000000 in
theorem sym_2 (A U B : List S37) (y : S37) (a m b : Nat) (h1 : 0 < U.length) (hs : Srt U) (ha : a = A.length) (hm : m = a + U.length) (hb : b = m + [y].length) (hl : (A ++ (U ++ ([y] ++ B))).length < 1152921504606846976) (c1 : U.length ≠ 1) :
    ∃ R, R.length = U.length + [y].length ∧ Srt R ∧ Sim (U ++ [y]) R ∧ Ev (fun k => slices_symMergeCmpFunc_api_Change_at_run_byKey.f k (A ++ (U ++ ([y] ++ B))) (a : Int) (m : Int) (b : Int)) (A ++ (R ++ B)) := by
  have hone : ([y] : List S37).length = 1 := rfl
  have hl' : A.length + U.length + [y].length < 1152921504606846976 := by simp at hl; omega
  obtain ⟨D, hD⟩ : ∃ D, D = A ++ (U ++ ([y] ++ B)) := ⟨_, rfl⟩
  have hDl : D.length = A.length + U.length + [y].length + B.length := by rw [hD]; simp; omega
  have hDb : D.length < 1152921504606846976 := by rw [hD]; exact hl
  have hDy : D = (A ++ U) ++ y :: B := by rw [hD]; simp
  have hDm : elA D m = y := elA_mid (A ++ U) B y m (by simp; omega) D hDy
  obtain ⟨q, q1, q2, q3, q4, q5⟩ := s2 D a m (by omega) (by omega) (m - a) a m (Nat.le_refl _) (by omega) (Nat.le_refl _) (Nat.le_refl _) (.inl rfl) (.inl rfl)
  rw [hDm] at q3 q4
  obtain ⟨U1, U2, rfl, hU1⟩ := split_at U (q - a) (by omega)
  obtain ⟨g1, g2, g3⟩ := hs.parts
  have hle : ∀ c ∈ U1, ¬ K y < K c := last_le g1 (K y) fun v V' e => by
    subst e
    rcases q3 with q3 | q3
    · simp at hU1; omega
    · rw [elA_mid (A ++ V') (U2 ++ y :: B) v (q - 1) (by simp at hU1 ⊢; omega) D (by rw [hDy]; simp)] at q3
      exact q3
  have hgt : ∀ c ∈ U2, K y < K c := first_gt g2 (K y) fun v V' e => by
    subst e
    rcases q4 with q4 | q4
    · simp at hm; omega
    · rw [elA_mid (A ++ U1) (V' ++ y :: B) v q (by simp; omega) D (by rw [hDy]; simp)] at q4
      exact q4
  refine ⟨U1 ++ y :: U2, by simp; omega, ?_, ?_, ?_⟩
  · refine Srt.app g1 (Srt.cons g2 fun t ht => le_of_lt (hgt t ht)) fun c hc d hd => ?_
    rcases List.mem_cons.1 hd with rfl | hd
    · exact hle c hc
    · exact g3 c hc d hd
  · have := Sim.app (Sim.refl U1) (Sim.rot (u := U2) (v := [y]) (by
      intro c hc d hd
      rw [List.mem_singleton.1 hd]
      intro e
      exact List.lt_irrefl _ (e ▸ hgt c hc)))
    simpa using this
  · rw [← hD]
    have hmv := mv3 U2.length (A ++ U1) U2 B y q m rfl (by simp; omega) (by simp at hm; omega) (by rw [show (A ++ U1) ++ (U2 ++ y :: B) = D by rw [hDy]; simp]; omega)
    rw [show (A ++ U1) ++ (U2 ++ y :: B) = D by rw [hDy]; simp, show (A ++ U1) ++ y :: (U2 ++ B) = A ++ ((U1 ++ y :: U2) ++ B) by simp] at hmv
    refine Ev.step (fun _ => slices_symMergeCmpFunc_api_Change_at_run_byKey.f.eq_2 ..) (Ev.congr (fun k => ?_) (q5 _ hmv))
    rw [if_neg (by rw [w64 (by omega) (by omega)]; omega), if_pos (by rw [w64 (by omega) (by omega)]; simp at hb; omega)]
end Go.Proofs.Ytkkfkccfnfjbiaa.Se
namespace Go.Proofs.Ytkkfkccfnfjbiaa.Sf
open Go.RowKit Go.Proofs.Ytkkfkccfnfjbiaa.PGr Go.Proofs.YtkkfkccfnfjbiaaW.PrintWords Go.Proofs.YtkkfkccfnfjbiaaW.PrintLast Go.Proofs.Ytkkfkccfnfjbiaa.Ra Go.Proofs.Ytkkfkccfnfjbiaa.Rb Go.Proofs.Ytkkfkccfnfjbiaa.Rc Go.Proofs.Ytkkfkccfnfjbiaa.Ka Go.Proofs.Ytkkfkccfnfjbiaa.Sa Go.Proofs.Ytkkfkccfnfjbiaa.Sb Go.Proofs.Ytkkfkccfnfjbiaa.Sc Go.Proofs.Ytkkfkccfnfjbiaa.Sd Go.Proofs.Ytkkfkccfnfjbiaa.Se
set_option linter.unusedSimpArgs false
set_option linter.unusedVariables false
set_option maxHeartbeats 4000000 in
theorem sym_3 (A U V B : List S37) (a m b : Nat) (h1 : 0 < U.length) (h2 : 0 < V.length) (hs : Srt U) (hv : Srt V) (ha : a = A.length) (hm : m = a + U.length) (hb : b = m + V.length) (hl : (A ++ (U ++ (V ++ B))).length < 1152921504606846976) (c1 : ¬ U.length = 1) (c2 : ¬ V.length = 1)
    (ih : ∀ (A1 U1 V1 B1 : List S37) (a m b : Nat), U1.length + V1.length < U.length + V.length → 0 < U1.length → 0 < V1.length → Srt U1 → Srt V1 → a = A1.length → m = a + U1.length → b = m + V1.length → (A1 ++ (U1 ++ (V1 ++ B1))).length < 1152921504606846976 → ∃ R, R.length = U1.length + V1.length ∧ Srt R ∧ Sim (U1 ++ V1) R ∧ Ev (fun k => slices_symMergeCmpFunc_api_Change_at_run_byKey.f k (A1 ++ (U1 ++ (V1 ++ B1))) (a : Int) (m : Int) (b : Int)) (A1 ++ (R ++ B1))) :
    ∃ R, R.length = U.length + V.length ∧ Srt R ∧ Sim (U ++ V) R ∧ Ev (fun k => slices_symMergeCmpFunc_api_Change_at_run_byKey.f k (A ++ (U ++ (V ++ B))) (a : Int) (m : Int) (b : Int)) (A ++ (R ++ B)) := by
  have hl' : A.length + U.length + V.length < 1152921504606846976 := by simp at hl; omega
  obtain ⟨D, hD⟩ : ∃ D, D = A ++ (U ++ (V ++ B)) := ⟨_, rfl⟩
  have hDl : D.length = A.length + U.length + V.length + B.length := by rw [hD]; simp; omega
  have hDb : D.length < 1152921504606846976 := by rw [hD]; exact hl
  obtain ⟨mid, hmid⟩ : ∃ mid, (a + b) / 2 = mid := ⟨_, rfl⟩
  have hhalf := half (i := a) (j := b) (by omega)
  rw [hmid] at hhalf
  have HH := Aside0.mk hhalf
  clear hhalf
  have HN := Aside0.mk (show wrap64 ((mid : Int) + (m : Int)) = ((mid + m : Nat) : Int) by rw [w64 (by omega) (by omega)]; omega)
  obtain ⟨t, r, htr, hr, hrm, hlo, hta, htr2⟩ : ∃ t r : Nat, Aside0 ((m > mid ∧ t = mid + m - b ∧ r = mid) ∨ (¬ m > mid ∧ t = a ∧ r = m)) ∧ r ≤ m ∧ r ≤ mid ∧ mid + m ≤ b + t ∧ a ≤ t ∧ t ≤ r := by
    by_cases h3 : m > mid
    · exact ⟨mid + m - b, mid, ⟨.inl ⟨h3, rfl, rfl⟩⟩, by omega, Nat.le_refl _, by omega, by omega, by omega⟩
    · exact ⟨a, m, ⟨.inr ⟨h3, rfl, rfl⟩⟩, Nat.le_refl _, by omega, by omega, Nat.le_refl _, by omega⟩
  obtain ⟨q, q1, q2, q3, q4, q5⟩ := s4 D a m b mid (mid + m) t r rfl hr hrm hlo (by omega) (by omega) (by omega) (by omega) (r - t) t r (Nat.le_refl _) htr2 (Nat.le_refl _) (Nat.le_refl _) (.inl rfl) (.inl rfl)
  obtain ⟨e, he⟩ : ∃ e, mid + m - q = e := ⟨_, rfl⟩
  rw [he] at q3 q5
  obtain ⟨U1, U2, rfl, hU1⟩ := split_at U (q - a) (by omega)
  obtain ⟨V1, V2, rfl, hV1⟩ := split_at V (mid - q) (by omega)
  obtain ⟨u1, u2, u3⟩ := hs.parts
  obtain ⟨v1, v2, v3⟩ := hv.parts
  simp only [List.length_append] at h1 h2 hm hb hl' c1 c2
  have hDf : D = A ++ (U1 ++ (U2 ++ (V1 ++ (V2 ++ B)))) := by rw [hD]; simp
  have hi : ∀ x ∈ U2, ∀ y ∈ V1, K y < K x := by
    cases hU2 : U2 with
    | nil => intro x hx; cases hx
    | cons u U2' =>
      rcases List.eq_nil_or_concat V1 with hV | ⟨V1', v, hV⟩
      · intro x hx y hy; rw [hV] at hy; cases hy
      · rw [List.concat_eq_append] at hV
        have hvu : K v < K u := by
          rcases q4 with q4 | q4
          · rcases htr.out with ⟨h3, ht1, ht2⟩ | ⟨h3, ht1, ht2⟩
            · skip
              rw [hV] at hV1; simp at hV1; omega
            · skip
              rw [hU2] at hm; simp at hm; omega
          · rw [elA_mid (A ++ U1) (U2' ++ (V1 ++ (V2 ++ B))) u q (by simp; omega) D (by rw [hDf, hU2]; simp), elA_mid (A ++ U1 ++ U2 ++ V1') (V2 ++ B) v (mid + m - 1 - q) (by rw [hV] at hV1; simp at hV1 ⊢; omega) D (by rw [hDf, hV]; simp)] at q4
            exact q4
        intro x hx y hy
        have k1 : ¬ K x < K u := by
          rcases List.mem_cons.1 hx with rfl | hx
          · exact List.lt_irrefl _
          · rw [hU2] at u2
            exact (List.pairwise_cons.1 u2).1 x hx
        have k2 : ¬ K v < K y := by
          rw [hV] at hy v1
          rcases List.mem_append.1 hy with hy | hy
          · exact v1.parts.2.2 y hy v (by simp)
          · rw [List.mem_singleton.1 hy]; exact List.lt_irrefl _
        exact lt_of_lt_le (klt_of k2 hvu) k1
  have hii : ∀ x ∈ U1, ∀ y ∈ V2, ¬ K y < K x := by
    cases hV2 : V2 with
    | nil => intro x hx y hy; cases hy
    | cons v V2' =>
      rcases List.eq_nil_or_concat U1 with hU | ⟨U1', u, hU⟩
      · intro x hx; rw [hU] at hx; cases hx
      · rw [List.concat_eq_append] at hU
        have hvu : ¬ K v < K u := by
          rcases q3 with q3 | q3
          · rcases htr.out with ⟨h3, ht1, ht2⟩ | ⟨h3, ht1, ht2⟩
            · skip
              rw [hV2] at hb; simp at hb; omega
            · skip
              rw [hU] at hU1; simp at hU1; omega
          · rw [elA_mid (A ++ U1') (U2 ++ (V1 ++ (V2 ++ B))) u (q - 1) (by rw [hU] at hU1; simp at hU1 ⊢; omega) D (by rw [hDf, hU]; simp), elA_mid (A ++ U1 ++ U2 ++ V1) (V2' ++ B) v e (by simp; omega) D (by rw [hDf, hV2]; simp)] at q3
            exact q3
        intro x hx y hy
        have k1 : ¬ K u < K x := by
          rw [hU] at hx u1
          rcases List.mem_append.1 hx with hx | hx
          · exact u1.parts.2.2 x hx u (by simp)
          · rw [List.mem_singleton.1 hx]; exact List.lt_irrefl _
        have k2 : ¬ K y < K v := by
          rcases List.mem_cons.1 hy with rfl | hy
          · exact List.lt_irrefl _
          · rw [hV2] at v2
            exact (List.pairwise_cons.1 v2).1 y hy
        exact kle_trans k1 (kle_trans hvu k2)
  obtain ⟨RL, RR, l1, r1, l2, r2, l3, r3, l4⟩ := halves A U1 V1 U2 V2 B a b mid q e ha (by omega) (by omega) (by omega) (by omega) u1 v1 u2 v2 (by simp at hl ⊢; omega) (fun A U V B a m b k1 k2 k3 k4 k5 k6 k7 k8 k9 => ih A U V B a m b (by simp only [List.length_append]; omega) k2 k3 k4 k5 k6 k7 k8 k9) (by omega) (by omega)
  refine ⟨RL ++ RR, by simp; omega, ?_, ?_, ?_⟩
  · refine Srt.app l2 r2 fun x hx y hy => ?_
    rw [← l3.mem] at hx
    rw [← r3.mem] at hy
    rcases List.mem_append.1 hx with hx | hx <;> rcases List.mem_append.1 hy with hy | hy
    · exact u3 x hx y hy
    · exact hii x hx y hy
    · exact le_of_lt (hi y hy x hx)
    · exact v3 x hx y hy
  · refine Sim.trans ?_ (Sim.app l3 r3)
    have := Sim.mid U1 V2 (Sim.rot (u := U2) (v := V1) (fun x hx y hy e2 => List.lt_irrefl _ (e2 ▸ hi x hx y hy)))
    simpa using this
  · rw [← hD]
    have hj6 : Ev (fun k => slices_symMergeCmpFunc_api_Change_at_run_byKey.j6 k D (a : Int) (m : Int) (b : Int) (mid : Int) (q : Int) (e : Int) (decide (q < m) && decide (m < e))) (A ++ ((RL ++ RR) ++ B)) := by
      refine Ev.step (fun _ => slices_symMergeCmpFunc_api_Change_at_run_byKey.j6.eq_2 ..) ?_
      by_cases h3 : q < m ∧ m < e
      · have hf : (decide (q < m) && decide (m < e)) = true := by simp [h3.1, h3.2]
        rw [hf]
        have hrot := rot_ev (A ++ U1) U2 V1 (V2 ++ B) q m e (by omega) (by omega) (by simp; omega) (by simp; omega) (by omega) (by rw [show (A ++ U1) ++ (U2 ++ (V1 ++ (V2 ++ B))) = D by rw [hDf]; simp]; omega)
        rw [show (A ++ U1) ++ (U2 ++ (V1 ++ (V2 ++ B))) = D by rw [hDf]; simp, show (A ++ U1) ++ (V1 ++ (U2 ++ (V2 ++ B))) = A ++ (U1 ++ (V1 ++ (U2 ++ (V2 ++ B)))) by simp] at hrot
        exact Ev.congr (fun k => if_pos rfl) (Ev.bind hrot l4)
      · have hf : (decide (q < m) && decide (m < e)) = false := by
          rw [Bool.and_eq_false_iff, decide_eq_false_iff_not, decide_eq_false_iff_not]; omega
        rw [hf]
        have hsame : D = A ++ (U1 ++ (V1 ++ (U2 ++ (V2 ++ B)))) := by
          rw [hDf]
          by_cases h6 : U2.length = 0
          · rw [List.eq_nil_of_length_eq_zero h6]; simp
          · rw [List.eq_nil_of_length_eq_zero (l := V1) (by omega)]; simp
        rw [hsame]
        exact Ev.congr (fun k => if_neg (by decide)) l4
    have hl4 := q5 _ hj6
    have hj4 : Ev (fun k => slices_symMergeCmpFunc_api_Change_at_run_byKey.j4 k D (a : Int) (m : Int) (b : Int) (mid : Int) ((mid + m : Nat) : Int) (t : Int) (r : Int)) (A ++ ((RL ++ RR) ++ B)) := by
      refine Ev.step (fun _ => slices_symMergeCmpFunc_api_Change_at_run_byKey.j4.eq_2 ..) (Ev.congr (fun k => ?_) hl4)
      rw [w64 (x := ((mid + m : Nat) : Int) - 1) (by omega) (by omega)]
    refine Ev.step (fun _ => slices_symMergeCmpFunc_api_Change_at_run_byKey.f.eq_2 ..) (Ev.congr (fun k => ?_) hj4)
    rw [if_neg (by rw [w64 (by omega) (by omega)]; omega), if_neg (by rw [w64 (by omega) (by omega)]; omega), HH.out, HN.out]
    rcases htr.out with ⟨h3, ht1, ht2⟩ | ⟨h3, ht1, ht2⟩
    · skip
      rw [if_pos (by omega), w64 (x := ((mid + m : Nat) : Int) - b) (by omega) (by omega), ht1, ht2]
      congr 1
      omega
    · skip
      rw [if_neg (by omega), ht1, ht2]
theorem sym_ev : ∀ (s : Nat) (A U V B : List S37) (a m b : Nat), U.length + V.length ≤ s → 0 < U.length → 0 < V.length → Srt U → Srt V → a = A.length → m = a + U.length → b = m + V.length → (A ++ (U ++ (V ++ B))).length < 1152921504606846976 →
    ∃ R, R.length = U.length + V.length ∧ Srt R ∧ Sim (U ++ V) R ∧ Ev (fun k => slices_symMergeCmpFunc_api_Change_at_run_byKey.f k (A ++ (U ++ (V ++ B))) (a : Int) (m : Int) (b : Int)) (A ++ (R ++ B)) := by
  intro s
  induction s with
  | zero => intro A U V B a m b h h1; omega
  | succ s ih =>
    intro A U V B a m b h h1 h2 hs hv ha hm hb hl
    by_cases c1 : U.length = 1
    · obtain ⟨x, rfl⟩ := List.length_eq_one_iff.1 c1
      exact sym_1 A V B x a m b h2 hv ha hm hb hl
    · by_cases c2 : V.length = 1
      · obtain ⟨y, rfl⟩ := List.length_eq_one_iff.1 c2
        exact sym_2 A U B y a m b h1 hs ha hm hb hl c1
      · exact sym_3 A U V B a m b h1 h2 hs hv ha hm hb hl c1 c2 (fun A1 U1 V1 B1 a m b k => ih A1 U1 V1 B1 a m b (by omega))
end Go.Proofs.Ytkkfkccfnfjbiaa.Sf
namespace Go.Proofs.Ytkkfkccfnfjbiaa.Sg
open Go.RowKit Go.Proofs.Ytkkfkccfnfjbiaa.PGr Go.Proofs.YtkkfkccfnfjbiaaW.PrintWords Go.Proofs.YtkkfkccfnfjbiaaW.PrintLast Go.Proofs.Ytkkfkccfnfjbiaa.Ra Go.Proofs.Ytkkfkccfnfjbiaa.Rb Go.Proofs.Ytkkfkccfnfjbiaa.Rc Go.Proofs.Ytkkfkccfnfjbiaa.Rg Go.Proofs.Ytkkfkccfnfjbiaa.Ka Go.Proofs.Ytkkfkccfnfjbiaa.Kc Go.Proofs.Ytkkfkccfnfjbiaa.Sa Go.Proofs.Ytkkfkccfnfjbiaa.Sb Go.Proofs.Ytkkfkccfnfjbiaa.Sc Go.Proofs.Ytkkfkccfnfjbiaa.Sf
set_option linter.unusedSimpArgs false
set_option linter.unusedVariables false
/-- Sorted blocks of bs, one behind the other. -/
inductive Blk (bs : Nat) : List S37 → Prop
  | last (l : List S37) : l.length ≤ bs → Srt l → Blk bs l
  | cons (u r : List S37) : u.length = bs → Srt u → Blk bs r → Blk bs (u ++ r)
theorem Blk.srt {bs : Nat} {l : List S37} (h : Blk bs l) (hl : l.length ≤ bs) : Srt l := by
  cases h with
  | last _ _ hs => exact hs
  | cons u r hu hs hr =>
    rw [List.length_append] at hl
    rw [List.eq_nil_of_length_eq_zero (l := r) (by omega), List.append_nil]
    exact hs
theorem Blk.cut {bs : Nat} {l : List S37} (h : Blk bs l) (hl : bs ≤ l.length) : ∃ u r, l = u ++ r ∧ u.length = bs ∧ Srt u ∧ Blk bs r := by
  cases h with
  | last _ h1 hs => exact ⟨l, [], by simp, by omega, hs, Blk.last [] (by simp) List.Pairwise.nil⟩
  | cons u r hu hs hr => exact ⟨u, r, rfl, hu, hs, hr⟩
theorem st_l0 (n : Nat) (hn : n < 576460752303423488) : ∀ (s : Nat) (R A : List S37) (a b : Nat), R.length ≤ s → a = A.length → b = a + 20 → n = a + R.length →
    ∃ R2, Blk 20 R2 ∧ R2.length = R.length ∧ Sim R R2 ∧ ∀ out, Ev (fun k => slices_stableCmpFunc_api_Change_at_run_byKey.l1 k (A ++ R2) (n : Int) 20) out → Ev (fun k => slices_stableCmpFunc_api_Change_at_run_byKey.l0 k (A ++ R) (n : Int) 20 (a : Int) (b : Int)) out := by
  intro s
  induction s with
  | zero =>
    intro R A a b h ha hb hnr
    obtain ⟨R2, h1, h2, h3, h4⟩ := ins_ev A R [] a n ha hnr (by simp; omega)
    simp only [List.append_nil] at h4
    refine ⟨R2, Blk.last _ (by omega) h2, h1, h3, fun out h5 => Ev.step (fun _ => slices_stableCmpFunc_api_Change_at_run_byKey.l0.eq_2 ..) (Ev.congr (fun k => if_neg (by omega)) (Ev.bind h4 h5))⟩
  | succ s ih =>
    intro R A a b h ha hb hnr
    by_cases h20 : 20 ≤ R.length
    · obtain ⟨U, R', rfl, hU⟩ := split_at R 20 h20
      rw [List.length_append] at h hnr
      obtain ⟨U2, h1, h2, h3, h4⟩ := ins_ev A U R' a b ha (by omega) (by simp; omega)
      obtain ⟨R2, k1, k2, k3, k4⟩ := ih R' (A ++ U2) b (b + 20) (by omega) (by simp; omega) rfl (by omega)
      refine ⟨U2 ++ R2, Blk.cons _ _ (by omega) h2 k1, by simp; omega, Sim.app h3 k3, fun out h5 => Ev.step (fun _ => slices_stableCmpFunc_api_Change_at_run_byKey.l0.eq_2 ..) (Ev.congr (fun k => if_pos (by omega)) (Ev.bind h4 ?_))⟩
      have h6 := k4 out (by rw [List.append_assoc]; exact h5)
      rw [List.append_assoc] at h6
      refine Ev.congr (fun k => ?_) h6
      rw [w64 (by omega) (by omega)]
      rfl
    · obtain ⟨R2, h1, h2, h3, h4⟩ := ins_ev A R [] a n ha hnr (by simp; omega)
      simp only [List.append_nil] at h4
      exact ⟨R2, Blk.last _ (by omega) h2, h1, h3, fun out h5 => Ev.step (fun _ => slices_stableCmpFunc_api_Change_at_run_byKey.l0.eq_2 ..) (Ev.congr (fun k => if_neg (by omega)) (Ev.bind h4 h5))⟩
theorem st_l2 (n bs : Nat) (hn : n < 576460752303423488) (hbs : 0 < bs) (hbn : bs < n) : ∀ (s : Nat) (R A : List S37) (a b : Nat), R.length ≤ s → Blk bs R → a = A.length → b = a + 2 * bs → n = a + R.length →
    ∃ R2, Blk (2 * bs) R2 ∧ R2.length = R.length ∧ Sim R R2 ∧ ∀ out, Ev (fun k => slices_stableCmpFunc_api_Change_at_run_byKey.l1 k (A ++ R2) (n : Int) ((2 * bs : Nat) : Int)) out → Ev (fun k => slices_stableCmpFunc_api_Change_at_run_byKey.l2 k (A ++ R) (n : Int) (bs : Int) (a : Int) (b : Int)) out := by
  intro s
  induction s with
  | zero =>
    intro R A a b h hB ha hb hnr
    refine ⟨R, Blk.last _ (by omega) (hB.srt (by omega)), rfl, Sim.refl _, fun out h5 => Ev.step (fun _ => slices_stableCmpFunc_api_Change_at_run_byKey.l2.eq_2 ..) (Ev.congr (fun k => ?_) h5)⟩
    rw [if_neg (by omega), if_neg (by rw [w64 (by omega) (by omega)]; omega), w64 (by omega) (by omega), show (bs : Int) * 2 = ((2 * bs : Nat) : Int) by omega]
  | succ s ih =>
    intro R A a b h hB ha hb hnr
    have HM := Aside0.mk (show ∀ x : Int, x = (a : Int) + bs → wrap64 ((a : Int) + bs) = x from fun x hx => by rw [w64 (by omega) (by omega), hx])
    have HD := Aside0.mk (show wrap64 ((bs : Int) * 2) = ((2 * bs : Nat) : Int) by rw [w64 (by omega) (by omega)]; omega)
    by_cases h1 : 2 * bs ≤ R.length
    · obtain ⟨u, r, rfl, hu, hus, hr⟩ := hB.cut (by omega)
      rw [List.length_append] at h h1 hnr
      obtain ⟨v, r2, rfl, hv, hvs, hr2⟩ := hr.cut (by omega)
      rw [List.length_append] at h h1 hnr
      obtain ⟨R1, k1, k2, k3, k4⟩ := sym_ev (u.length + v.length) A u v r2 a (a + bs) b (Nat.le_refl _) (by omega) (by omega) hus hvs ha (by omega) (by omega) (by simp; omega)
      obtain ⟨R2, j1, j2, j3, j4⟩ := ih r2 (A ++ R1) b (b + 2 * bs) (by omega) hr2 (by simp; omega) rfl (by omega)
      refine ⟨R1 ++ R2, Blk.cons _ _ (by omega) k2 j1, by simp; omega, ?_, fun out h5 => Ev.step (fun _ => slices_stableCmpFunc_api_Change_at_run_byKey.l2.eq_2 ..) (Ev.congr (fun k => if_pos (by omega)) ?_)⟩
      · have := Sim.app k3 j3
        rwa [List.append_assoc] at this
      · rw [HM.out ((a + bs : Nat) : Int) (by omega)]
        refine Ev.bind k4 ?_
        have h6 := j4 out (by rw [List.append_assoc]; exact h5)
        rw [List.append_assoc] at h6
        refine Ev.congr (fun k => ?_) h6
        rw [w64 (x := 2 * (bs : Int)) (by omega) (by omega), w64 (by omega) (by omega), show (b : Int) + 2 * (bs : Int) = ((b + 2 * bs : Nat) : Int) by omega]
    · by_cases h2 : bs < R.length
      · obtain ⟨u, r, rfl, hu, hus, hr⟩ := hB.cut (by omega)
        rw [List.length_append] at h h1 h2 hnr
        obtain ⟨R1, k1, k2, k3, k4⟩ := sym_ev (u.length + r.length) A u r [] a (a + bs) n (Nat.le_refl _) (by omega) (by omega) hus (hr.srt (by omega)) ha (by omega) (by omega) (by simp; omega)
        simp only [List.append_nil] at k4
        refine ⟨R1, Blk.last _ (by omega) k2, by simp; omega, k3, fun out h5 => Ev.step (fun _ => slices_stableCmpFunc_api_Change_at_run_byKey.l2.eq_2 ..) (Ev.congr (fun k => if_neg (by omega)) ?_)⟩
        rw [HM.out ((a + bs : Nat) : Int) (by omega), HD.out]
        exact Ev.congr (fun k => if_pos (by omega)) (Ev.bind k4 h5)
      · refine ⟨R, Blk.last _ (by omega) (hB.srt (by omega)), rfl, Sim.refl _, fun out h5 => Ev.step (fun _ => slices_stableCmpFunc_api_Change_at_run_byKey.l2.eq_2 ..) (Ev.congr (fun k => if_neg (by omega)) ?_)⟩
        rw [HM.out ((a + bs : Nat) : Int) (by omega), HD.out]
        exact Ev.congr (fun k => if_neg (by omega)) h5
theorem st_l1 (n : Nat) (hn : n < 576460752303423488) : ∀ (s bs : Nat) (R : List S37), n - bs ≤ s → 0 < bs → Blk bs R → R.length = n → ∃ R2, Srt R2 ∧ R2.length = R.length ∧ Sim R R2 ∧ Ev (fun k => slices_stableCmpFunc_api_Change_at_run_byKey.l1 k R (n : Int) (bs : Int)) R2 := by
  intro s
  induction s with
  | zero =>
    intro bs R h hb hB hl
    exact ⟨R, hB.srt (by omega), rfl, Sim.refl _, Ev.step (fun _ => slices_stableCmpFunc_api_Change_at_run_byKey.l1.eq_2 ..) (Ev.congr (fun k => if_neg (by omega)) (Ev.now _))⟩
  | succ s ih =>
    intro bs R h hb hB hl
    by_cases h1 : bs < n
    · obtain ⟨R1, k1, k2, k3, k4⟩ := st_l2 n bs hn hb h1 R.length R [] 0 (2 * bs) (Nat.le_refl _) hB rfl (by omega) (by omega)
      obtain ⟨R2, j1, j2, j3, j4⟩ := ih (2 * bs) R1 (by omega) (by omega) k1 (by omega)
      refine ⟨R2, j1, by omega, Sim.trans k3 j3, Ev.step (fun _ => slices_stableCmpFunc_api_Change_at_run_byKey.l1.eq_2 ..) (Ev.congr (fun k => ?_) (k4 _ j4))⟩
      rw [if_pos (by omega), w64 (by omega) (by omega), show 2 * (bs : Int) = ((2 * bs : Nat) : Int) by omega]
      rfl
    · exact ⟨R, hB.srt (by omega), rfl, Sim.refl _, Ev.step (fun _ => slices_stableCmpFunc_api_Change_at_run_byKey.l1.eq_2 ..) (Ev.congr (fun k => if_neg (by omega)) (Ev.now _))⟩
/-- slices.SortStableFunc by key is a stable sort. -/
theorem sort_ev (l : List S37) (hl : l.length < 576460752303423488) : ∃ R, Srt R ∧ R.length = l.length ∧ Sim l R ∧ Ev (fun k => slices_SortStableFunc_api_Change_api_Change_at_run_byKey.f k l) R := by
  obtain ⟨R1, h1, h2, h3, h4⟩ := st_l0 l.length hl l.length l [] 0 20 (Nat.le_refl _) rfl rfl (by omega)
  obtain ⟨R2, k1, k2, k3, k4⟩ := st_l1 l.length hl (l.length - 20) 20 R1 (Nat.le_refl _) (by omega) h1 (by omega)
  refine ⟨R2, k1, by omega, Sim.trans h3 k3, ?_⟩
  unfold slices_SortStableFunc_api_Change_api_Change_at_run_byKey.f
  refine Ev.bind ?_ (Ev.now _)
  unfold slices_stableCmpFunc_api_Change_at_run_byKey.f
  exact h4 _ k4
/-- run.Make is what putting one after the other comes to. -/
theorem Make_ev (l : List S37) (hl : l.length < 1000000) : Ev (fun k => Kc.run_Make.f k l) (putsL [] l) := by
  obtain ⟨R, h1, h2, h3, h4⟩ := sort_ev l.reverse (by rw [List.length_reverse]; omega)
  unfold Kc.run_Make.f
  rw [clone_ev l hl]
  refine Ev.bind (f := fun k b => (slices_SortStableFunc_api_Change_api_Change_at_run_byKey.f k b).bind fun c => some ((compactL c).map clr)) (Reverse_ev l (by omega)) (Ev.bind (f := fun _ c => some ((compactL c).map clr)) h4 ?_)
  rw [comp_puts h3 h1]
  exact Ev.now _
end Go.Proofs.Ytkkfkccfnfjbiaa.Sg
