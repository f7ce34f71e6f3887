/- DERIVED. Making a run is putting one after the other, as the document says. Conditions: none but those of the statement. -/
import Derived.Test.YtkkfkccfnfjbiaaPMkx17
import Derived.Test.YtkkfkccfnfjbiaaPMkx20
import Derived.Test.YtkkfkccfnfjbiaaPMkx9
import Derived.Test.YtkkfkccfnfjbiaaQRunMakes
import Derived.Test.YtkkfkccfnfjbiaaRs
namespace Go.Proofs.Ytkkfkccfnfjbiaa.Pure
open Go.RowKit Go.Proofs.Ytkkfkccfnfjbiaa.PMk Go.Proofs.YtkkfkccfnfjbiaaW.PrintWords Go.Proofs.YtkkfkccfnfjbiaaW.PrintLast Go.Proofs.Ytkkfkccfnfjbiaa.Ra Go.Proofs.Ytkkfkccfnfjbiaa.Rb Go.Proofs.Ytkkfkccfnfjbiaa.Rc Go.Proofs.Ytkkfkccfnfjbiaa.Rd Go.Proofs.Ytkkfkccfnfjbiaa.Re Go.Proofs.Ytkkfkccfnfjbiaa.Rg Go.Proofs.Ytkkfkccfnfjbiaa.Rs Go.Proofs.Ytkkfkccfnfjbiaa.Sa Go.Proofs.Ytkkfkccfnfjbiaa.Sg
set_option linter.unusedSimpArgs false
set_option linter.unusedVariables false
theorem tidy_norm (d : S37) : tidyB (norm d) = true := by
  unfold tidyB norm
  by_cases h : d.f2 = true
  · rw [if_pos h]
    have e : (⟨#[]⟩ : ByteArray).toList = [] := by decide +kernel
    simp [e]
  · rw [if_neg h]
    simp [h]
theorem right_puts (l : List S37) : rightB (putsL [] l) = true := by
  unfold rightB
  rw [chain_iff]
  refine ⟨(fun a h => by cases h), sorted_puts l, fun c hc => ?_⟩
  have h := mem_puts c l.reverse
  rw [List.reverse_reverse] at h
  obtain ⟨d, _, rfl⟩ := h.1 hc
  exact tidy_norm d
theorem awake_RunMakes : Ev (fun k => shelfmarklaw09_awake.f k) true := Ev.of shelfmarklaw09_awake.mono (k := 40) (by decide +kernel)
theorem RunMakes (l0 : List (S37)) (w0 : l0.length ≤ maxLen ∧ ∀ x ∈ l0, WF37 x) (y0 : l0.length * 40 ≤ 140737488351232) : ∃ k, shelfmarklaw09_RunMakes.f k l0 = some true := by
  suffices h : Ev (fun k => shelfmarklaw09_RunMakes.f k l0) true from h.rounds
  unfold shelfmarklaw09_RunMakes.f
  refine Ev.bind awake_RunMakes ?_
  simp only [if_true]
  obtain ⟨b, hb, h1⟩ := light_ev l0
  refine Ev.bind hb ?_
  cases b with
  | false => simp only [Bool.false_eq_true, if_false]; exact Ev.now _
  | true =>
    simp only [if_true]
    have hl : l0.length < 1000000 := by have := h1 rfl; omega
    have hp : (putsL [] l0).length < 1000000 := by have := putAll_len l0 []; simp only [List.length_nil] at this; omega
    have hm : Ev (fun k => run_Make.f k l0) (putsL [] l0) := Make_ev l0 hl
    refine Ev.bind hm (Ev.bind (make_ev l0 (by omega)) (Ev.bind (same_ev _ (by omega)) ?_))
    simp only [if_true]
    refine Ev.bind (right_ev _ (by omega)) ?_
    rw [right_puts]
    simp only [if_true]
    refine Ev.bind (right_ev l0 (by omega)) (Ev.bind (ref_right_ev l0 (by omega)) ?_)
    simp only [beq_self_eq_true]
    exact Ev.now _
end Go.Proofs.Ytkkfkccfnfjbiaa.Pure
