/- DERIVED. What is found of a key, what a range has, and what is there, are as the document says. Conditions: none but those of the statement. -/
import Derived.Test.YtkkfkccfnfjbiaaRg
import Derived.Test.YtkkfkccfnfjbiaaRs
import Derived.Test.YtkkfkccfnfjbiaaPAllx9
import Derived.Test.YtkkfkccfnfjbiaaPAllx20
namespace Go.Proofs.Ytkkfkccfnfjbiaa.Pure
open Go.RowKit Go.Proofs.Ytkkfkccfnfjbiaa.PAll Go.Proofs.YtkkfkccfnfjbiaaW.PrintWords Go.Proofs.YtkkfkccfnfjbiaaW.PrintLast Go.Proofs.Ytkkfkccfnfjbiaa.Ra Go.Proofs.Ytkkfkccfnfjbiaa.Rb Go.Proofs.Ytkkfkccfnfjbiaa.Rc Go.Proofs.Ytkkfkccfnfjbiaa.Rd Go.Proofs.Ytkkfkccfnfjbiaa.Re Go.Proofs.Ytkkfkccfnfjbiaa.Rg Go.Proofs.Ytkkfkccfnfjbiaa.Rs
set_option linter.unusedSimpArgs false
set_option linter.unusedVariables false
theorem awake_RunFinds : Ev (fun k => shelfmarklaw09_awake.f k) true := Ev.of shelfmarklaw09_awake.mono (k := 40) (by decide +kernel)
theorem RunFinds (l0 : List (S37)) (w0 : l0.length ≤ maxLen ∧ ∀ x ∈ l0, WF37 x) (y0 : l0.length * 40 ≤ 140737488351232) (a1 : ByteArray) (w1 : a1.size ≤ 140737488351232) (x2 : S34) (w2 : WF34 x2) : ∃ k, shelfmarklaw09_RunFinds.f k l0 a1 x2.f0 x2.f1 = some true := by
  suffices h : Ev (fun k => shelfmarklaw09_RunFinds.f k l0 a1 x2.f0 x2.f1) true from h.rounds
  unfold shelfmarklaw09_RunFinds.f
  refine Ev.bind awake_RunFinds ?_
  simp only [if_true]
  have hend : Ev (fun k => shelfmarklaw09_RunFinds.j0 k l0 a1 true x2.f0 x2.f1) true := by
    refine Ev.step (fun _ => shelfmarklaw09_RunFinds.j0.eq_2 ..) ?_
    simp only [if_true]; exact Ev.now _
  obtain ⟨b, hb, h1⟩ := light_ev l0
  refine Ev.bind hb ?_
  cases b with
  | false => simp only [Bool.false_eq_true, if_false]; exact hend
  | true =>
    simp only [if_true]
    have hl : l0.length < 1000000 := by have := h1 rfl; omega
    have hgo : ∀ t : Bool, Ev (fun k => shelfmarklaw09_RunFinds.j0 k l0 a1 t x2.f0 x2.f1) true := by
      intro t
      cases t with
      | true => exact hend
      | false =>
        refine Ev.step (fun _ => shelfmarklaw09_RunFinds.j0.eq_2 ..) ?_
        simp only [Bool.false_eq_true, if_false]
        refine Ev.bind (Find_ev l0 hl a1) (Ev.bind (RFind_ev l0 hl a1) ?_)
        simp only [beq_self_eq_true, Bool.and_self, if_true]
        refine Ev.bind (Slice_ev l0 hl x2.f0 x2.f1) (Ev.bind (RSlice_ev l0 hl x2.f0 x2.f1) (Ev.bind (same_ev _ ?_) ?_))
        · split
          · have := List.length_filter_le (inB x2.f0.toList x2.f1.toList) l0; omega
          · simp
        simp only [if_true]
        refine Ev.bind (Live_ev l0 hl) (Ev.bind (RLive_ev l0 hl) (Ev.bind (pairs_ev _ ?_) (Ev.now _)))
        split
        · unfold liveL
          rw [List.length_map]
          have := List.length_filter_le (fun c : S37 => !c.f2) l0; omega
        · simp
    by_cases c1 : (a1.size : Int) > 1000
    · simp only [if_pos c1]; exact hend
    · simp only [if_neg c1]
      by_cases c2 : (x2.f0.size : Int) > 1000
      · simp only [if_pos c2]; exact hend
      · simp only [if_neg c2]; exact hgo _
end Go.Proofs.Ytkkfkccfnfjbiaa.Pure
