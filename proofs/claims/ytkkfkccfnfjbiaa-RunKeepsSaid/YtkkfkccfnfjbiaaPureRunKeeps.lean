/- DERIVED. What is handed in stays, its spare room too; what is answered is new memory: what the code asks, told. Conditions: none but those of the statement. -/
import Derived.Test.YtkkfkccfnfjbiaaPGrx14
import Derived.Test.YtkkfkccfnfjbiaaPGrx15
import Derived.Test.YtkkfkccfnfjbiaaPGrx16
import Derived.Test.YtkkfkccfnfjbiaaPGrx19
import Derived.Test.YtkkfkccfnfjbiaaPGrx21
import Derived.Test.YtkkfkccfnfjbiaaPGrx4
import Derived.Test.YtkkfkccfnfjbiaaPGrx6
import Derived.Test.YtkkfkccfnfjbiaaQRunKeeps
import Derived.Test.YtkkfkccfnfjbiaaRs
namespace Go.Proofs.Ytkkfkccfnfjbiaa.Pure
open Go.RowKit Go.Proofs.Ytkkfkccfnfjbiaa.PGr Go.Proofs.YtkkfkccfnfjbiaaW.PrintWords Go.Proofs.YtkkfkccfnfjbiaaW.PrintLast Go.Proofs.Ytkkfkccfnfjbiaa.Ra Go.Proofs.Ytkkfkccfnfjbiaa.Rb Go.Proofs.Ytkkfkccfnfjbiaa.Rc Go.Proofs.Ytkkfkccfnfjbiaa.Rd Go.Proofs.Ytkkfkccfnfjbiaa.Re Go.Proofs.Ytkkfkccfnfjbiaa.Rg Go.Proofs.Ytkkfkccfnfjbiaa.Rs Go.Proofs.Ytkkfkccfnfjbiaa.Sa Go.Proofs.Ytkkfkccfnfjbiaa.Sg
set_option linter.unusedSimpArgs false
set_option linter.unusedVariables false
theorem tidy_norm (d : S37) : tidyB (norm d) = true := by
  unfold tidyB norm
  by_cases h : d.f2 = true
  · rw [if_pos h]
    have e : (⟨#[]⟩ : ByteArray).toList = [] := by decide +kernel
    simp [e]
  · rw [if_neg h]
    simp [h]
theorem right_puts (l : List S37) : rightB (putsL [] l) = true := by
  unfold rightB
  rw [chain_iff]
  refine ⟨(fun a h => by cases h), sorted_puts l, fun c hc => ?_⟩
  have h := mem_puts c l.reverse
  rw [List.reverse_reverse] at h
  obtain ⟨d, _, rfl⟩ := h.1 hc
  exact tidy_norm d
theorem merge_right (ls : List (List S37)) (h : ∀ l ∈ ls, rightB l = true) (hl : ls.length ≤ 1000) (ht : tot ls < 1000000) : Ev (fun k => run_Merge.f k ls) (refFold ls [], 0) := by
  have := run_merge_ev ls hl ht
  rwa [if_pos (List.all_eq_true.2 h)] at this
theorem awake_RunKeeps : Ev (fun k => shelfmarklaw09_awake.f k) true := Ev.of shelfmarklaw09_awake.mono (k := 40) (by decide +kernel)
/-- At some number of rounds all is told, or light says no. -/
theorem RunKeeps (l : List S37) : ∃ k, shelfmarklaw09_awake.f k = some true ∧ (shelfmarkref09_Light.f k l 60 = some false ∨ (shelfmarkref09_Light.f k l 60 = some true ∧ l.length ≤ 60 ∧
    ∃ want x y z : List S37, shelfmarkref09_Make.f k l = some want ∧ run_Make.f k l = some x ∧ shelfmarkref09_Same.f k l l = some true ∧ run_Merge.f k [x] = some (y, 0) ∧ run_Slice.f k x ⟨#[]⟩ ⟨#[]⟩ = some z ∧ shelfmarkref09_Same.f k x want = some true ∧ y.length ≤ 60 ∧ z.length ≤ 60)) := by
  obtain ⟨K1, h1⟩ := awake_RunKeeps
  obtain ⟨g, ⟨K2, h2⟩, hg⟩ := light_ev l
  cases g with
  | false => exact ⟨K1 + K2, h1 _ (by omega), .inl (h2 _ (by omega))⟩
  | true =>
    have hl := hg rfl
    have hx := right_puts l
    have lx : (putsL [] l).length ≤ 60 := by have := putAll_len l []; simp only [List.length_nil] at this; omega
    obtain ⟨K3, h3⟩ := make_ev l (by omega)
    obtain ⟨K4, h4⟩ := Make_ev l (by omega)
    obtain ⟨K5, h5⟩ := same_ev l (by omega)
    generalize putsL [] l = x at *
    have t1 : tot [x] = x.length := by simp [tot]
    obtain ⟨K6, h6⟩ := merge_right [x] (by simp [hx]) (by simp) (by rw [t1]; omega)
    obtain ⟨K7, h7⟩ := Slice_ev x (by omega) ⟨#[]⟩ ⟨#[]⟩
    obtain ⟨K8, h8⟩ := same_ev x (by omega)
    rw [if_pos hx] at h7
    have ly : (refFold [x] []).length ≤ 60 := by have := refFold_len [x] []; rw [t1] at this; simp only [List.length_nil] at this; omega
    exact ⟨K1 + K2 + K3 + K4 + K5 + K6 + K7 + K8, h1 _ (by omega), .inr ⟨h2 _ (by omega), hl, x, x, _, _, h3 _ (by omega), h4 _ (by omega), h5 _ (by omega), h6 _ (by omega), h7 _ (by omega), h8 _ (by omega), ly, Nat.le_trans (List.length_filter_le _ _) lx⟩⟩
end Go.Proofs.Ytkkfkccfnfjbiaa.Pure
