/- DERIVED. Runs that are put together in whatever groups come to the same; what is cut and merged again is what it was. Conditions: none but those of the statement. -/
import Derived.Test.YtkkfkccfnfjbiaaPGrx14
import Derived.Test.YtkkfkccfnfjbiaaPGrx15
import Derived.Test.YtkkfkccfnfjbiaaPGrx16
import Derived.Test.YtkkfkccfnfjbiaaPGrx19
import Derived.Test.YtkkfkccfnfjbiaaPGrx4
import Derived.Test.YtkkfkccfnfjbiaaPGrx6
import Derived.Test.YtkkfkccfnfjbiaaQRunGroups
import Derived.Test.YtkkfkccfnfjbiaaRs
namespace Go.Proofs.Ytkkfkccfnfjbiaa.Pure
open Go.RowKit Go.Proofs.Ytkkfkccfnfjbiaa.PGr Go.Proofs.YtkkfkccfnfjbiaaW.PrintWords Go.Proofs.YtkkfkccfnfjbiaaW.PrintLast Go.Proofs.Ytkkfkccfnfjbiaa.Ra Go.Proofs.Ytkkfkccfnfjbiaa.Rb Go.Proofs.Ytkkfkccfnfjbiaa.Rc Go.Proofs.Ytkkfkccfnfjbiaa.Rd Go.Proofs.Ytkkfkccfnfjbiaa.Re Go.Proofs.Ytkkfkccfnfjbiaa.Rg Go.Proofs.Ytkkfkccfnfjbiaa.Rs Go.Proofs.Ytkkfkccfnfjbiaa.Sa Go.Proofs.Ytkkfkccfnfjbiaa.Sg
set_option linter.unusedSimpArgs false
set_option linter.unusedVariables false
theorem tidy_norm (d : S37) : tidyB (norm d) = true := by
  unfold tidyB norm
  by_cases h : d.f2 = true
  · rw [if_pos h]
    have e : (⟨#[]⟩ : ByteArray).toList = [] := by decide +kernel
    simp [e]
  · rw [if_neg h]
    simp [h]
theorem right_puts (l : List S37) : rightB (putsL [] l) = true := by
  unfold rightB
  rw [chain_iff]
  refine ⟨(fun a h => by cases h), sorted_puts l, fun c hc => ?_⟩
  have h := mem_puts c l.reverse
  rw [List.reverse_reverse] at h
  obtain ⟨d, _, rfl⟩ := h.1 hc
  exact tidy_norm d
theorem first_mem {c : S37} : ∀ ls : List (List S37), FirstC ls c → ∃ l ∈ ls, c ∈ l
  | [], h => False.elim h
  | l :: t, h => by
    rcases h with h | ⟨_, h⟩
    · exact ⟨l, by simp, h⟩
    · obtain ⟨m, h1, h2⟩ := first_mem t h
      exact ⟨m, List.mem_cons_of_mem _ h1, h2⟩
theorem right_fold (ls : List (List S37)) (h : ∀ l ∈ ls, rightB l = true) : rightB (refFold ls []) = true := by
  rw [right_iff]
  refine ⟨sorted_refFold ls [] List.Pairwise.nil, fun c hc => ?_⟩
  obtain ⟨l, h1, h2⟩ := first_mem ls ((mem_refFold ls h).1 hc)
  exact ((right_iff l).1 (h l h1)).2 c h2
theorem first_key {q : List UInt8} : ∀ ls : List (List S37), (∃ l ∈ ls, ∃ d ∈ l, K d = q) → ∃ d, FirstC ls d ∧ K d = q
  | [], h => by obtain ⟨l, h1, _⟩ := h; simp at h1
  | l :: t, h => by
    by_cases hl : ∃ d ∈ l, K d = q
    · obtain ⟨d, h1, h2⟩ := hl
      exact ⟨d, .inl h1, h2⟩
    · obtain ⟨m, h1, d, h2, h3⟩ := h
      rcases List.mem_cons.1 h1 with rfl | h1
      · exact absurd ⟨d, h2, h3⟩ hl
      · obtain ⟨e, h4, h5⟩ := first_key t ⟨m, h1, d, h2, h3⟩
        exact ⟨e, .inr ⟨fun d hd he => hl ⟨d, hd, he.trans h5⟩, h4⟩, h5⟩
theorem none_iff (ls : List (List S37)) (h : ∀ l ∈ ls, rightB l = true) (c : S37) : (∀ d ∈ refFold ls [], K d ≠ K c) ↔ ∀ l ∈ ls, ∀ d ∈ l, K d ≠ K c := by
  constructor
  · intro h1 l hl d hd e
    obtain ⟨x, h2, h3⟩ := first_key ls ⟨l, hl, d, hd, e⟩
    exact h1 x ((mem_refFold ls h).2 h2) h3
  · intro h1 d hd
    obtain ⟨l, h2, h3⟩ := first_mem ls ((mem_refFold ls h).1 hd)
    exact h1 l h2 d h3
theorem sorted_fold (ls : List (List S37)) : Sorted (refFold ls []) := sorted_refFold ls [] List.Pairwise.nil
theorem fold_left {x y z : List S37} (hx : rightB x = true) (hy : rightB y = true) (hz : rightB z = true) : refFold [refFold [x, y] [], z] [] = refFold [x, y, z] [] := by
  have h2 : ∀ l ∈ [x, y], rightB l = true := by simp [hx, hy]
  refine Sorted.ext (sorted_fold _) (sorted_fold _) fun c => ?_
  have h3 := right_fold _ h2
  have h4 := none_iff _ h2 c
  have h5 := mem_refFold (c := c) _ h2
  generalize refFold [x, y] [] = q at h3 h4 h5 ⊢
  rw [mem_refFold _ (show ∀ l ∈ [x, y, z], rightB l = true by simp [hx, hy, hz]), mem_refFold _ (show ∀ l ∈ [q, z], rightB l = true by simp [h3, hz])]
  simp only [FirstC, h5, h4, List.forall_mem_cons, List.not_mem_nil, false_imp_iff, implies_true, and_true, and_false, or_false]
  constructor
  · rintro ((h | ⟨h, k⟩) | ⟨⟨h, k⟩, m⟩)
    · exact .inl h
    · exact .inr ⟨h, .inl k⟩
    · exact .inr ⟨h, .inr ⟨k, m⟩⟩
  · rintro (h | ⟨h, k | ⟨k, m⟩⟩)
    · exact .inl (.inl h)
    · exact .inl (.inr ⟨h, k⟩)
    · exact .inr ⟨⟨h, k⟩, m⟩
theorem fold_right {x y z : List S37} (hx : rightB x = true) (hy : rightB y = true) (hz : rightB z = true) : refFold [x, refFold [y, z] []] [] = refFold [x, y, z] [] := by
  have h2 : ∀ l ∈ [y, z], rightB l = true := by simp [hy, hz]
  refine Sorted.ext (sorted_fold _) (sorted_fold _) fun c => ?_
  have h3 := right_fold _ h2
  have h5 := mem_refFold (c := c) _ h2
  generalize refFold [y, z] [] = q at h3 h5 ⊢
  rw [mem_refFold _ (show ∀ l ∈ [x, y, z], rightB l = true by simp [hx, hy, hz]), mem_refFold _ (show ∀ l ∈ [x, q], rightB l = true by simp [h3, hx])]
  simp only [FirstC, h5, and_false, or_false]
theorem fold_cut {p : List S37} (hp : rightB p = true) (at_ : List UInt8) : refFold [p.filter (fun c => !decide (K c < at_)), p.filter (fun c => decide (K c < at_))] [] = p := by
  have hs := (right_iff p).1 hp
  have hf : ∀ f : S37 → Bool, rightB (p.filter f) = true := fun f => (right_iff _).2 ⟨hs.1.filter f, fun c hc => hs.2 c (List.mem_filter.1 hc).1⟩
  refine Sorted.ext (sorted_fold _) hs.1 fun c => ?_
  rw [mem_refFold _ (by simp [hf])]
  simp only [FirstC, and_false, or_false, List.mem_filter, decide_eq_true_eq, Bool.not_eq_true', decide_eq_false_iff_not]
  constructor
  · rintro (h | ⟨_, h⟩)
    · exact h.1
    · exact h.1
  · intro h
    by_cases k : K c < at_
    · exact .inr ⟨fun d hd e => hd.2 (e ▸ k), h, k⟩
    · exact .inl ⟨h, k⟩
theorem right_filter {p : List S37} (hp : rightB p = true) (f : S37 → Bool) : rightB (p.filter f) = true :=
  (right_iff _).2 ⟨((right_iff p).1 hp).1.filter f, fun c hc => ((right_iff p).1 hp).2 c (List.mem_filter.1 hc).1⟩
theorem len_cut (f : S37 → Bool) : ∀ p : List S37, (p.filter f).length + (p.filter (fun c => !f c)).length = p.length
  | [] => rfl
  | c :: t => by
    have ih := len_cut f t
    cases h : f c <;> simp [List.filter_cons, h] <;> omega
theorem merge_right (ls : List (List S37)) (h : ∀ l ∈ ls, rightB l = true) (hl : ls.length ≤ 1000) (ht : tot ls < 1000000) : Ev (fun k => run_Merge.f k ls) (refFold ls [], 0) := by
  have := run_merge_ev ls hl ht
  rwa [if_pos (List.all_eq_true.2 h)] at this
theorem awake_RunGroups : Ev (fun k => shelfmarklaw09_awake.f k) true := Ev.of shelfmarklaw09_awake.mono (k := 40) (by decide +kernel)
/-- What the code asks of three lists, told. -/
def Told (k : Nat) (a b c : List S37) (at_ : ByteArray) : Prop :=
  ∃ x y z p q r s t low high u : List S37, run_Make.f k a = some x ∧ run_Make.f k b = some y ∧ run_Make.f k c = some z ∧ run_Merge.f k [x, y, z] = some (p, 0) ∧ run_Merge.f k [x, y] = some (q, 0) ∧ run_Merge.f k [y, z] = some (r, 0) ∧ run_Merge.f k [q, z] = some (s, 0) ∧ run_Merge.f k [x, r] = some (t, 0) ∧
    shelfmarkref09_Same.f k p s = some true ∧ shelfmarkref09_Same.f k p t = some true ∧ run_Slice.f k p ⟨#[]⟩ at_ = some low ∧ run_Slice.f k p at_ ⟨#[]⟩ = some high ∧ run_Merge.f k [high, low] = some (u, 0) ∧ shelfmarkref09_Same.f k u p = some true ∧ low.length + high.length = p.length ∧ p.length < 9223372036854775808
theorem told (a b c : List S37) (at_ : ByteArray) (hat : at_.toList ≠ []) (ha : a.length ≤ 60) (hb : b.length ≤ 60) (hc : c.length ≤ 60) : ∃ K, ∀ k, K ≤ k → Told k a b c at_ := by
  have hx := right_puts a
  have hy := right_puts b
  have hz := right_puts c
  have lx : (putsL [] a).length ≤ 60 := by have := putAll_len a []; simp only [List.length_nil] at this; omega
  have ly : (putsL [] b).length ≤ 60 := by have := putAll_len b []; simp only [List.length_nil] at this; omega
  have lz : (putsL [] c).length ≤ 60 := by have := putAll_len c []; simp only [List.length_nil] at this; omega
  obtain ⟨K1, h1⟩ := Make_ev a (by omega)
  obtain ⟨K2, h2⟩ := Make_ev b (by omega)
  obtain ⟨K3, h3⟩ := Make_ev c (by omega)
  generalize putsL [] a = x at *
  generalize putsL [] b = y at *
  generalize putsL [] c = z at *
  have t2 : ∀ u v : List S37, tot [u, v] = u.length + v.length := fun u v => by simp [tot]
  have t3 : tot [x, y, z] = x.length + (y.length + z.length) := by simp [tot]
  have lp : (refFold [x, y, z] []).length ≤ 180 := by have := refFold_len [x, y, z] []; simp only [List.length_nil] at this; omega
  have lq : (refFold [x, y] []).length ≤ 120 := by have := refFold_len [x, y] []; rw [t2] at this; simp only [List.length_nil] at this; omega
  have lr : (refFold [y, z] []).length ≤ 120 := by have := refFold_len [y, z] []; rw [t2] at this; simp only [List.length_nil] at this; omega
  have hp : rightB (refFold [x, y, z] []) = true := right_fold _ (by simp [hx, hy, hz])
  have hq : rightB (refFold [x, y] []) = true := right_fold _ (by simp [hx, hy])
  have hr : rightB (refFold [y, z] []) = true := right_fold _ (by simp [hz, hy])
  obtain ⟨K4, h4⟩ := merge_right [x, y, z] (by simp [hx, hy, hz]) (by simp) (by omega)
  obtain ⟨K5, h5⟩ := merge_right [x, y] (by simp [hx, hy]) (by simp) (by rw [t2]; omega)
  obtain ⟨K6, h6⟩ := merge_right [y, z] (by simp [hz, hy]) (by simp) (by rw [t2]; omega)
  obtain ⟨K7, h7⟩ := merge_right [refFold [x, y] [], z] (by simp [hz, hq]) (by simp) (by rw [t2]; omega)
  obtain ⟨K8, h8⟩ := merge_right [x, refFold [y, z] []] (by simp [hx, hr]) (by simp) (by rw [t2]; omega)
  rw [fold_left hx hy hz] at h7
  rw [fold_right hx hy hz] at h8
  have he : (⟨#[]⟩ : ByteArray).toList = [] := by decide +kernel
  obtain ⟨K9, h9⟩ := same_ev (refFold [x, y, z] []) (by omega)
  obtain ⟨K10, h10⟩ := Slice_ev (refFold [x, y, z] []) (by omega) ⟨#[]⟩ at_
  obtain ⟨K11, h11⟩ := Slice_ev (refFold [x, y, z] []) (by omega) at_ ⟨#[]⟩
  rw [if_pos hp, he] at h10
  rw [if_pos hp, he] at h11
  generalize refFold [x, y, z] [] = p at *
  have e1 : p.filter (inB [] at_.toList) = p.filter (fun c => decide (K c < at_.toList)) := by
    refine List.filter_congr fun c _ => ?_
    unfold inB
    simp [hat]
  have e2 : p.filter (inB at_.toList []) = p.filter (fun c => !decide (K c < at_.toList)) := by
    refine List.filter_congr fun c _ => ?_
    unfold inB
    simp
  rw [e1] at h10
  rw [e2] at h11
  have hlen := len_cut (fun c => decide (K c < at_.toList)) p
  obtain ⟨K12, h12⟩ := merge_right [p.filter (fun c => !decide (K c < at_.toList)), p.filter (fun c => decide (K c < at_.toList))] (by simp [right_filter hp]) (by simp) (by rw [t2]; omega)
  rw [fold_cut hp] at h12
  refine ⟨K1 + K2 + K3 + K4 + K5 + K6 + K7 + K8 + K9 + K10 + K11 + K12, fun k hk => ⟨x, y, z, p, _, _, p, p, _, _, p, h1 k (by omega), h2 k (by omega), h3 k (by omega), h4 k (by omega), h5 k (by omega), h6 k (by omega), h7 k (by omega), h8 k (by omega), h9 k (by omega), h9 k (by omega), h10 k (by omega), h11 k (by omega), h12 k (by omega), h9 k (by omega), by omega, by omega⟩⟩
/-- At some number of rounds all is told, or light says no. -/
theorem RunGroups (a b c : List S37) (at_ : ByteArray) (hat : at_.toList ≠ []) : ∃ k, shelfmarklaw09_awake.f k = some true ∧ (shelfmarklaw09_light.f k [a, b, c] = some false ∨ (shelfmarklaw09_light.f k [a, b, c] = some true ∧ Told k a b c at_)) := by
  obtain ⟨K1, h1⟩ := awake_RunGroups
  obtain ⟨g, ⟨K2, h2⟩, hg⟩ := all_ev [a, b, c]
  cases g with
  | false => exact ⟨K1 + K2, h1 _ (by omega), .inl (h2 _ (by omega))⟩
  | true =>
    obtain ⟨_, hl⟩ := hg rfl
    obtain ⟨K3, h3⟩ := told a b c at_ hat (hl a (by simp)) (hl b (by simp)) (hl c (by simp))
    exact ⟨K1 + K2 + K3, h1 _ (by omega), .inr ⟨h2 _ (by omega), h3 _ (by omega)⟩⟩
end Go.Proofs.Ytkkfkccfnfjbiaa.Pure
