/- DERIVED. What heads come to: of each key the first run's change, in order. Conditions: those that each lemma names. -/
import Derived.Test.YtkkfkccfnfjbiaaRa
namespace Go.Proofs.Ytkkfkccfnfjbiaa.Rb
open Go.RowKit Go.Proofs.Ytkkfkccfnfjbiaa.PAll Go.Proofs.YtkkfkccfnfjbiaaW.PrintWords Go.Proofs.YtkkfkccfnfjbiaaW.PrintLast Go.Proofs.Ytkkfkccfnfjbiaa.Ht Go.Proofs.Ytkkfkccfnfjbiaa.Hu Go.Proofs.Ytkkfkccfnfjbiaa.Hv Go.Proofs.Ytkkfkccfnfjbiaa.Hw Go.Proofs.Ytkkfkccfnfjbiaa.Ra
set_option linter.unusedSimpArgs false
set_option linter.unusedVariables false
def Sorted (l : List S37) : Prop := l.Pairwise (fun a b => K a < K b)
theorem Sorted.ext {a b : List S37} (ha : Sorted a) (hb : Sorted b) (h : ∀ c, c ∈ a ↔ c ∈ b) : a = b := by
  induction a generalizing b with
  | nil => cases b with
    | nil => rfl
    | cons y t => exact absurd ((h y).2 (by simp)) (by simp)
  | cons x s ih =>
    cases b with
    | nil => exact absurd ((h x).1 (by simp)) (by simp)
    | cons y t =>
      obtain ⟨hx, hs⟩ := List.pairwise_cons.1 ha
      obtain ⟨hy, ht⟩ := List.pairwise_cons.1 hb
      have hxy : x = y := by
        rcases List.mem_cons.1 ((h x).1 (by simp)) with e | e
        · exact e
        · rcases List.mem_cons.1 ((h y).2 (by simp)) with e2 | e2
          · exact e2.symm
          · exact absurd (List.lt_trans (hx y e2) (hy x e)) (List.lt_irrefl _)
      subst hxy
      congr 1
      refine ih hs ht fun c => ⟨fun hc => ?_, fun hc => ?_⟩
      · rcases List.mem_cons.1 ((h c).1 (List.mem_cons_of_mem _ hc)) with e | e
        · subst e; exact absurd (hx c hc) (List.lt_irrefl _)
        · exact e
      · rcases List.mem_cons.1 ((h c).2 (List.mem_cons_of_mem _ hc)) with e | e
        · subst e; exact absurd (hy c hc) (List.lt_irrefl _)
        · exact e
theorem Sorted.key {l : List S37} (h : Sorted l) {a b : S37} (ha : a ∈ l) (hb : b ∈ l) (hk : K a = K b) : a = b := by
  induction l with
  | nil => cases ha
  | cons x t ih =>
    obtain ⟨hx, ht⟩ := List.pairwise_cons.1 h
    rcases List.mem_cons.1 ha with e1 | h1 <;> rcases List.mem_cons.1 hb with e2 | h2
    · exact e1.trans e2.symm
    · exact absurd (hx _ h2) (by rw [← hk, e1]; exact List.lt_irrefl _)
    · exact absurd (hx _ h1) (by rw [hk, e2]; exact List.lt_irrefl _)
    · exact ih ht h1 h2
/-- c is what the first of the heads that know its key has. -/
def Has (vs : List S56) (c : S37) : Prop := ∃ h ∈ vs, c ∈ h.f0 ∧ ∀ h' ∈ vs, ∀ c' ∈ h'.f0, K c' = K c → h.f1 ≤ h'.f1
def Will (vs : List S56) (out : List S37) (c : S37) : Prop := c ∈ out ∨ ((∀ d ∈ out, K d ≠ K c) ∧ Has vs c)
structure Inv (vs : List S56) (out : List S37) : Prop where
  sorted : Sorted out
  heads : ∀ h ∈ vs, Sorted h.f0
  above : ∀ c ∈ out, ∀ h ∈ vs, ∀ d ∈ h.f0, ¬ K d < K c
  which : (vs.map (·.f1)).Nodup
theorem Has.perm {vs us : List S56} (h : vs.Perm us) (c : S37) : Has vs c ↔ Has us c := by
  constructor
  · rintro ⟨x, h1, h2, h3⟩
    exact ⟨x, h.mem_iff.1 h1, h2, fun h' hh => h3 h' (h.mem_iff.2 hh)⟩
  · rintro ⟨x, h1, h2, h3⟩
    exact ⟨x, h.mem_iff.2 h1, h2, fun h' hh => h3 h' (h.mem_iff.1 hh)⟩
theorem Will.perm {vs us : List S56} (h : vs.Perm us) (out : List S37) (c : S37) : Will vs out c ↔ Will us out c := by
  unfold Will; rw [Has.perm h]
theorem Inv.perm {vs us : List S56} {out : List S37} (h : vs.Perm us) (hi : Inv vs out) : Inv us out :=
  ⟨hi.sorted, fun x hx => hi.heads x (h.mem_iff.2 hx), fun c hc x hx => hi.above c hc x (h.mem_iff.2 hx), (h.map _).nodup_iff.1 hi.which⟩
theorem Has.drop_nil {x : S56} {t : List S56} (hx : x.f0 = []) (c : S37) : Has (x :: t) c ↔ Has t c := by
  constructor
  · rintro ⟨y, h1, h2, h3⟩
    rcases List.mem_cons.1 h1 with rfl | h1
    · rw [hx] at h2; cases h2
    · exact ⟨y, h1, h2, fun h' hh => h3 h' (List.mem_cons_of_mem _ hh)⟩
  · rintro ⟨y, h1, h2, h3⟩
    refine ⟨y, List.mem_cons_of_mem _ h1, h2, fun h' hh c' hc' he => ?_⟩
    rcases List.mem_cons.1 hh with rfl | hh
    · rw [hx] at hc'; cases hc'
    · exact h3 h' hh c' hc' he
theorem key_le {l : List S37} {c : S37} {r : List S37} (h : Sorted (c :: r)) {d : S37} (hd : d ∈ c :: r) : ¬ K d < K c := by
  rcases List.mem_cons.1 hd with rfl | hd
  · exact List.lt_irrefl _
  · exact fun h1 => List.lt_irrefl _ (List.lt_trans h1 ((List.pairwise_cons.1 h).1 d hd))
theorem lt_of_not {a b c : List UInt8} (h : ¬ b < a) (k : b < c) : a < c := by
  by_cases h1 : a < b
  · exact List.lt_trans h1 k
  · rw [List.le_antisymm h h1]; exact k
theorem not_lt_trans {a b c : List UInt8} (h : ¬ b < a) (k : ¬ c < b) : ¬ c < a := fun h1 => k (by
  by_cases h2 : a < b
  · exact List.lt_trans h1 h2
  · rw [← List.le_antisymm h h2]; exact h1)
/-- What stands in another head stands behind the least head. -/
theorem behind {h y : S56} {c : S37} {r : List S37} (e : h.f0 = c :: r) (hy : Sorted y.f0) (hle : le h y) {d : S37} (hd : d ∈ y.f0) : ¬ K d < K c := by
  cases hl : y.f0 with
  | nil => rw [hl] at hd; cases hd
  | cons q s =>
    rw [hl] at hd hy
    have h1 := key_le hy (l := []) hd
    have e1 : KH h = K c := by unfold KH; rw [e]; rfl
    have e2 : KH y = K q := by unfold KH; rw [hl]; rfl
    have h2 : ¬ K q < K c := by
      rw [le_iff, e1, e2] at hle
      rcases hle with hle | ⟨hle, _⟩
      · exact fun h3 => List.lt_irrefl _ (List.lt_trans hle h3)
      · rw [hle]; exact List.lt_irrefl _
    exact not_lt_trans h2 h1
theorem outL_eq {out : List S37} {c : S37} (hs : Sorted out) (hc : ∀ d ∈ out, ¬ K c < K d) : (outL out c = out ∧ ∃ d ∈ out, K d = K c) ∨ (outL out c = out ++ [c] ∧ ∀ d ∈ out, K d ≠ K c) := by
  unfold outL
  by_cases h0 : out.length = 0
  · rw [if_pos h0]
    exact .inr ⟨rfl, fun d hd => by rw [List.eq_nil_of_length_eq_zero h0] at hd; cases hd⟩
  · rw [if_neg h0]
    have hlt : out.length - 1 < out.length := by omega
    have e : rd_T37 out ((out.length : Int) - 1) = out[out.length - 1] := by
      unfold rd_T37
      rw [show ((out.length : Int) - 1).toNat = out.length - 1 by omega, List.getD_eq_getElem?_getD, List.getElem?_eq_getElem hlt]; rfl
    rw [e]
    by_cases hk : (out[out.length - 1]).f0.toList = c.f0.toList
    · rw [if_pos hk]
      exact .inl ⟨rfl, _, List.getElem_mem hlt, hk⟩
    · rw [if_neg hk]
      refine .inr ⟨rfl, fun d hd he => hk ?_⟩
      obtain ⟨i, hi, rfl⟩ := List.getElem_of_mem hd
      rcases Nat.lt_or_ge i (out.length - 1) with h1 | h1
      · have h2 := List.pairwise_iff_getElem.1 hs i (out.length - 1) hi hlt h1
        have h2' : K out[i] < K out[out.length - 1] := h2
        rw [he] at h2'
        exact absurd h2' (hc _ (List.getElem_mem hlt))
      · have : i = out.length - 1 := by omega
        subst this
        exact he
theorem step_ok {h : S56} {t : List S56} {out : List S37} {c : S37} {r : List S37} (e : h.f0 = c :: r) (hi : Inv (h :: t) out) (hm : ∀ y ∈ t, le h y) (hne : ∀ y ∈ t, y.f0 ≠ []) :
    Inv (⟨r, h.f1⟩ :: t) (outL out c) ∧ ∀ x, Will (⟨r, h.f1⟩ :: t) (outL out c) x ↔ Will (h :: t) out x := by
  have hsr : Sorted (c :: r) := by have := hi.heads h (by simp); rw [e] at this; exact this
  have hcr := List.pairwise_cons.1 hsr
  have hoc : ∀ d ∈ out, ¬ K c < K d := fun d hd => hi.above d hd h (by simp) c (by rw [e]; simp)
  have hbe : ∀ y ∈ t, ∀ d ∈ y.f0, ¬ K d < K c := fun y hy d hd => behind e (hi.heads y (List.mem_cons_of_mem _ hy)) (hm y hy) hd
  -- of another key
  have hoth : ∀ x, K x ≠ K c → (Has (⟨r, h.f1⟩ :: t) x ↔ Has (h :: t) x) := by
    intro x hx
    constructor
    · rintro ⟨y, h1, h2, h3⟩
      have h3' : ∀ h' ∈ h :: t, ∀ c' ∈ h'.f0, K c' = K x → y.f1 ≤ h'.f1 := by
        intro h' hh c' hc' he
        rcases List.mem_cons.1 hh with rfl | hh
        · rw [e] at hc'
          rcases List.mem_cons.1 hc' with rfl | hc'
          · exact absurd he.symm hx
          · exact h3 ⟨r, h'.f1⟩ (by simp) c' hc' he
        · exact h3 h' (List.mem_cons_of_mem _ hh) c' hc' he
      rcases List.mem_cons.1 h1 with rfl | h1
      · exact ⟨h, by simp, by rw [e]; exact List.mem_cons_of_mem _ h2, h3'⟩
      · exact ⟨y, List.mem_cons_of_mem _ h1, h2, h3'⟩
    · rintro ⟨y, h1, h2, h3⟩
      have h3' : ∀ h' ∈ (⟨r, h.f1⟩ : S56) :: t, ∀ c' ∈ h'.f0, K c' = K x → y.f1 ≤ h'.f1 := by
        intro h' hh c' hc' he
        rcases List.mem_cons.1 hh with rfl | hh
        · exact h3 h (by simp) c' (by rw [e]; exact List.mem_cons_of_mem _ hc') he
        · exact h3 h' (List.mem_cons_of_mem _ hh) c' hc' he
      rcases List.mem_cons.1 h1 with rfl | h1
      · rw [e] at h2
        rcases List.mem_cons.1 h2 with rfl | h2
        · exact absurd rfl hx
        · exact ⟨⟨r, y.f1⟩, by simp, h2, h3'⟩
      · exact ⟨y, List.mem_cons_of_mem _ h1, h2, h3'⟩
  -- of this key
  have hthis : ∀ x, K x = K c → (Has (h :: t) x ↔ x = c) := by
    intro x hx
    have hmin : ∀ h' ∈ h :: t, ∀ c' ∈ h'.f0, K c' = K c → h.f1 ≤ h'.f1 := by
      intro h' hh c' hc' he
      rcases List.mem_cons.1 hh with rfl | hh
      · exact Int.le_refl _
      · have h1 := hm h' hh
        rw [le_iff] at h1
        have e1 : KH h = K c := by unfold KH; rw [e]; rfl
        rcases h1 with h1 | ⟨_, h1⟩
        · exfalso
          cases hl : h'.f0 with
          | nil => exact hne h' hh hl
          | cons q s =>
            have e2 : KH h' = K q := by unfold KH; rw [hl]; rfl
            rw [e1, e2] at h1
            have hs' := hi.heads h' (List.mem_cons_of_mem _ hh)
            rw [hl] at hc' hs'
            have := key_le hs' (l := []) hc'
            rw [he] at this
            exact this h1
        · exact h1
    constructor
    · rintro ⟨y, h1, h2, h3⟩
      have h4 := h3 h (by simp) c (by rw [e]; simp) hx.symm
      have h5 := hmin y h1 x h2 hx
      have h6 : y = h := by
        rcases List.mem_cons.1 h1 with rfl | h1
        · rfl
        · exfalso
          have hn := hi.which
          rw [List.map_cons, List.nodup_cons] at hn
          exact hn.1 (List.mem_map.2 ⟨y, h1, by omega⟩)
      subst h6
      exact (hi.heads y (by simp)).key h2 (by rw [e]; simp) hx
    · rintro rfl
      exact ⟨h, by simp, by rw [e]; simp, hmin⟩
  have habove : ∀ h' ∈ (⟨r, h.f1⟩ : S56) :: t, ∀ d ∈ h'.f0, ¬ K d < K c := by
    intro h' hh d hd
    rcases List.mem_cons.1 hh with rfl | hh
    · exact fun h1 => List.lt_irrefl _ (List.lt_trans h1 (hcr.1 d hd))
    · exact hbe h' hh d hd
  have hheads : ∀ h' ∈ (⟨r, h.f1⟩ : S56) :: t, Sorted h'.f0 := by
    intro h' hh
    rcases List.mem_cons.1 hh with rfl | hh
    · exact hcr.2
    · exact hi.heads h' (List.mem_cons_of_mem _ hh)
  have habove2 : ∀ a ∈ out, ∀ h' ∈ (⟨r, h.f1⟩ : S56) :: t, ∀ d ∈ h'.f0, ¬ K d < K a := by
    intro a ha h' hh d hd
    rcases List.mem_cons.1 hh with rfl | hh
    · exact hi.above a ha h (by simp) d (by rw [e]; exact List.mem_cons_of_mem _ hd)
    · exact hi.above a ha h' (List.mem_cons_of_mem _ hh) d hd
  rcases outL_eq hi.sorted hoc with ⟨ho, d, hd, hdk⟩ | ⟨ho, hd⟩
  · rw [ho]
    refine ⟨⟨hi.sorted, hheads, habove2, hi.which⟩, fun x => ?_⟩
    unfold Will
    by_cases hx : K x = K c
    · constructor
      · rintro (h1 | ⟨h1, _⟩)
        · exact .inl h1
        · exact absurd (hdk.trans hx.symm) (h1 d hd)
      · rintro (h1 | ⟨h1, _⟩)
        · exact .inl h1
        · exact absurd (hdk.trans hx.symm) (h1 d hd)
    · rw [hoth x hx]
  · rw [ho]
    refine ⟨⟨?_, hheads, ?_, hi.which⟩, fun x => ?_⟩
    · refine List.pairwise_append.2 ⟨hi.sorted, List.pairwise_singleton _ _, fun a ha b hb => ?_⟩
      rw [List.mem_singleton.1 hb]
      by_cases h1 : K a < K c
      · exact h1
      · exact absurd (List.le_antisymm (hoc a ha) h1) (hd a ha)
    · intro a ha h' hh d hd'
      rcases List.mem_append.1 ha with ha | ha
      · exact habove2 a ha h' hh d hd'
      · rw [List.mem_singleton.1 ha]; exact habove h' hh d hd'
    · unfold Will
      by_cases hx : K x = K c
      · rw [hthis x hx]
        constructor
        · rintro (h1 | ⟨h1, _⟩)
          · rcases List.mem_append.1 h1 with h1 | h1
            · exact .inl h1
            · exact .inr ⟨fun a ha he => hd a ha (he.trans hx), List.mem_singleton.1 h1⟩
          · exact absurd hx.symm (h1 c (by simp))
        · rintro (h1 | ⟨_, h1⟩)
          · exact .inl (List.mem_append_left _ h1)
          · exact .inl (by rw [h1]; simp)
      · rw [hoth x hx]
        constructor
        · rintro (h1 | ⟨h1, h2⟩)
          · rcases List.mem_append.1 h1 with h1 | h1
            · exact .inl h1
            · exact absurd (by rw [List.mem_singleton.1 h1]) hx
          · exact .inr ⟨fun a ha => h1 a (List.mem_append_left _ ha), h2⟩
        · rintro (h1 | ⟨h1, h2⟩)
          · exact .inl (List.mem_append_left _ h1)
          · refine .inr ⟨fun a ha => ?_, h2⟩
            rcases List.mem_append.1 ha with ha | ha
            · exact h1 a ha
            · rw [List.mem_singleton.1 ha]; exact fun he => hx he.symm
def total (vs : List S56) : Nat := (vs.map (·.f0.length)).sum
theorem total_perm {vs us : List S56} (h : vs.Perm us) : total vs = total us := (h.map _).sum_nat
theorem merge_l : ∀ (m : Nat) (vs : List S56) (out : List S37), total vs ≤ m → Inv vs out → (∀ y ∈ vs, y.f0 ≠ []) → Heaped vs 0 vs.length → out.length + total vs < 1000000 →
    ∃ r, Ev (fun k => mergeL k vs out) r ∧ Sorted r ∧ ∀ c, c ∈ r ↔ Will vs out c
  | m, [], out, _, hi, _, _, _ => by
    refine ⟨out, ?_, hi.sorted, fun c => ⟨fun h => .inl h, ?_⟩⟩
    · refine Ev.step (fun _ => mergeL.eq_2 ..) ?_
      simp only [List.length_nil, if_true]; exact Ev.now _
    · rintro (h | ⟨_, x, hx, _⟩)
      · exact h
      · cases hx
  | 0, h :: t, out, ht, hi, hne, _, _ => by
    have h1 := List.length_pos_iff.2 (hne h (by simp))
    simp only [total, List.map_cons, List.sum_cons] at ht
    omega
  | m + 1, h :: t, out, ht, hi, hne, hh, hl => by
    cases e : h.f0 with
    | nil => exact absurd e (hne h (by simp))
    | cons c r =>
      have hroot := root_least (h :: t) _ hh
      have hm : ∀ y ∈ t, le h y := by
        intro y hy
        obtain ⟨i, hi', rfl⟩ := List.getElem_of_mem hy
        have := hroot (i + 1) (by simp; omega)
        have e1 : at_ (h :: t) (i + 1) = t[i] := by
          unfold at_; rw [List.getD_eq_getElem?_getD, List.getElem?_cons_succ, List.getElem?_eq_getElem hi']; rfl
        rw [e1] at this
        exact this
      have hst := step_ok e hi hm (fun y hy => hne y (List.mem_cons_of_mem _ hy))
      have e0 : at_ (h :: t) 0 = h := rfl
      have ec : rd_T37 h.f0 0 = c := by rw [e]; rfl
      have hol : (outL out c).length ≤ out.length + 1 := by
        unfold outL
        split
        · simp
        · split <;> simp
      have htot : total (h :: t) = r.length + 1 + total t := by simp [total, e]
      have hn0 : ¬ (h :: t).length = 0 := by simp
      cases hr : r with
      | nil =>
        obtain ⟨⟨us, i'⟩, hd, hp0, hk0⟩ := pop_ok h ⟨h.f0.drop 1, h.f1⟩ t hh
        have hp : (us.take ((h :: t).length - 1)).Perm t := hp0
        have hk : Heaped (us.take ((h :: t).length - 1)) 0 (us.take ((h :: t).length - 1)).length := hk0
        have hw : ∀ x, Will t (outL out c) x ↔ Will (h :: t) out x := fun x => by
          rw [← hst.2 x]
          unfold Will
          rw [Has.drop_nil (x := ⟨r, h.f1⟩) hr]
        have hit : Inv t (outL out c) := ⟨hst.1.sorted, fun y hy => hst.1.heads y (List.mem_cons_of_mem _ hy), fun a ha y hy => hst.1.above a ha y (List.mem_cons_of_mem _ hy), by have := hst.1.which; rw [List.map_cons, List.nodup_cons] at this; exact this.2⟩
        obtain ⟨res, h1, h2, h3⟩ := merge_l m (us.take ((h :: t).length - 1)) (outL out c) (by rw [total_perm hp]; omega) (hit.perm hp.symm) (fun y hy => hne y (List.mem_cons_of_mem _ (hp.mem_iff.1 hy))) hk (by rw [total_perm hp]; omega)
        refine ⟨res, ?_, h2, fun x => ?_⟩
        · refine Ev.step (fun _ => mergeL.eq_2 ..) ?_
          simp only [if_neg hn0, if_pos (show out.length < 1000000 by omega), e0, ec]
          simp only [if_neg (show ¬ 1 < h.f0.length by rw [e, hr]; simp), hd, Option.bind_some]
          exact h1
        · rw [h3, Will.perm hp, hw]
      | cons c2 r2 =>
        obtain ⟨⟨us, i'⟩, hd, hp0, hk0⟩ := fix_ok h ⟨h.f0.drop 1, h.f1⟩ t hh
        have hp : us.Perm (⟨h.f0.drop 1, h.f1⟩ :: t) := hp0
        have hk : Heaped us 0 us.length := hk0
        have ed : (⟨h.f0.drop 1, h.f1⟩ : S56) = ⟨r, h.f1⟩ := by rw [e]; rfl
        have hp' : us.Perm (⟨r, h.f1⟩ :: t) := by rw [← ed]; exact hp
        have htr : total (⟨r, h.f1⟩ :: t) = r.length + total t := by simp [total]
        obtain ⟨res, h1, h2, h3⟩ := merge_l m us (outL out c) (by rw [total_perm hp', htr]; omega) (hst.1.perm hp'.symm) (fun y hy => by
          rcases List.mem_cons.1 (hp'.mem_iff.1 hy) with rfl | hy
          · rw [hr]; simp
          · exact hne y (List.mem_cons_of_mem _ hy)) hk (by rw [total_perm hp', htr]; omega)
        refine ⟨res, ?_, h2, fun x => ?_⟩
        · refine Ev.step (fun _ => mergeL.eq_2 ..) ?_
          simp only [if_neg hn0, if_pos (show out.length < 1000000 by omega), e0, ec]
          simp only [if_pos (show 1 < h.f0.length by rw [e, hr]; simp), hd, Option.bind_some]
          exact h1
        · rw [h3, Will.perm hp', hst.2]
end Go.Proofs.Ytkkfkccfnfjbiaa.Rb
