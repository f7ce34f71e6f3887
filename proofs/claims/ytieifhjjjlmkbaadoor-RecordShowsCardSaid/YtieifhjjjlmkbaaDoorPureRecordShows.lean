/- DERIVED. Which indexes may be, and what any record shows any index, are as the document says. Conditions: those of the statement. -/
import Derived.Test.YtieifhjjjlmkbaaDoorPAllx14
import Derived.Test.YtieifhjjjlmkbaaDoorVl
import Derived.Test.YtieifhjjjlmkbaaDoorRs
namespace Go.Proofs.YtieifhjjjlmkbaaDoor.Pure
open Go.RowKit Go.Proofs.YtieifhjjjlmkbaaDoor.PAll Go.Proofs.YtieifhjjjlmkbaaDoorW.PrintWords Go.Proofs.YtieifhjjjlmkbaaDoorW.PrintLast Go.Proofs.YtieifhjjjlmkbaaDoor.Hl Go.Proofs.YtieifhjjjlmkbaaDoor.Tl Go.Proofs.YtieifhjjjlmkbaaDoor.Vl Go.Proofs.YtieifhjjjlmkbaaDoor.Rs
set_option linter.unusedSimpArgs false
set_option linter.unusedVariables false
theorem awake_RecordShows : Ev (fun k => shelfmarklaw04_awake.f k) true := Ev.of shelfmarklaw04_awake.mono (k := 30) (by decide +kernel)
theorem RecordShows (x0 : S24) (w0 : WF24 x0) (l1 : List (S41)) (w1 : l1.length ≤ maxLen ∧ ∀ x ∈ l1, WF41 x) (y1 : l1.length * 32 ≤ 140737488351232) : ∃ k, shelfmarklaw04_RecordShows.f k x0.f0 x0.f1 l1 = some true := by
  refine Ev.rounds ?_
  unfold shelfmarklaw04_RecordShows.f
  refine Ev.bind awake_RecordShows ?_
  simp only [if_true]
  have hend : Ev (fun k => shelfmarklaw04_RecordShows.j0 k l1 true x0.f0 x0.f1) true := by
    refine Ev.step (fun _ => shelfmarklaw04_RecordShows.j0.eq_2 ..) ?_
    simp only [if_true]
    exact Ev.now _
  refine Ev.bind (light2_ev l1 []) ?_
  cases h : (lightB 1000 l1 0 0 && lightB 1000 [] 0 0) with
  | false =>
    simp only [Bool.false_eq_true, if_false]
    exact hend
  | true =>
    simp only [if_true]
    by_cases h1 : (x0.f1.length : Int) > 1000
    · simp only [decide_eq_true h1]
      exact hend
    · simp only [decide_eq_false h1]
      refine Ev.step (fun _ => shelfmarklaw04_RecordShows.j0.eq_2 ..) ?_
      simp only [Bool.false_eq_true, if_false]
      refine Ev.bind (show_ev _ _ _ (by omega)) ?_
      refine Ev.bind (refShow_ev _ _ _) ?_
      refine Ev.bind (index_ev _ _) ?_
      refine Ev.bind (refIndex_ev _ _) ?_
      simp only [if_true, beq_self_eq_true]
      have hl := (showR_len x0.f0 x0.f1 l1).1
      exact Ev.bind (same_ev _ (by omega)) (Ev.now _)
end Go.Proofs.YtieifhjjjlmkbaaDoor.Pure
