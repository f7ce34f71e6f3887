/- DERIVED. Areas and what lies in them are as the document says. Conditions: those of the statement. -/
import Derived.Test.YtieifhjjjlmkbaaDoorPAllx10
import Derived.Test.YtieifhjjjlmkbaaDoorPAllx23
import Derived.Test.YtieifhjjjlmkbaaDoorQRecordAreas
import Derived.Test.YtieifhjjjlmkbaaDoorRs
namespace Go.Proofs.YtieifhjjjlmkbaaDoor.Pure
open Go.RowKit Go.Proofs.YtieifhjjjlmkbaaDoor.PAll Go.Proofs.YtieifhjjjlmkbaaDoorW.PrintWords Go.Proofs.YtieifhjjjlmkbaaDoorW.PrintLast Go.Proofs.YtieifhjjjlmkbaaDoor.Hl Go.Proofs.YtieifhjjjlmkbaaDoor.Tl Go.Proofs.YtieifhjjjlmkbaaDoor.Vl Go.Proofs.YtieifhjjjlmkbaaDoor.Va Go.Proofs.YtieifhjjjlmkbaaDoor.Rs
set_option linter.unusedSimpArgs false
set_option linter.unusedVariables false
theorem awake_RecordAreas : Ev (fun k => shelfmarklaw04_awake.f k) true := Ev.of shelfmarklaw04_awake.mono (k := 30) (by decide +kernel)
theorem RecordAreas (a0 : Int) (w0 : (Lit.int .i64 a0).wf = true) (l1 : List (S41)) (w1 : l1.length ≤ maxLen ∧ ∀ x ∈ l1, WF41 x) (y1 : l1.length * 32 ≤ 140737488351232) (l2 : List (S41)) (w2 : l2.length ≤ maxLen ∧ ∀ x ∈ l2, WF41 x) (y2 : l2.length * 32 ≤ 140737488351232) (l3 : List (S41)) (w3 : l3.length ≤ maxLen ∧ ∀ x ∈ l3, WF41 x) (y3 : l3.length * 32 ≤ 140737488351232) : ∃ k, shelfmarklaw04_RecordAreas.f k a0 l1 l2 l3 = some true := by
  refine Ev.rounds ?_
  unfold shelfmarklaw04_RecordAreas.f
  refine Ev.bind awake_RecordAreas ?_
  simp only [if_true]
  have hend : Ev (fun k => shelfmarklaw04_RecordAreas.j0 k a0 l1 l2 l3 true) true := by
    refine Ev.step (fun _ => shelfmarklaw04_RecordAreas.j0.eq_2 ..) ?_
    simp only [if_true]
    exact Ev.now _
  refine Ev.bind (light2_ev l1 l2) ?_
  cases h : (lightB 1000 l1 0 0 && lightB 1000 l2 0 0) with
  | false =>
    simp only [Bool.false_eq_true, if_false]
    exact hend
  | true =>
    simp only [if_true]
    refine Ev.bind (light2_ev l3 []) ?_
    cases h2 : (lightB 1000 l3 0 0 && lightB 1000 [] 0 0) with
    | false => exact hend
    | true =>
      simp only [Bool.not_true]
      refine Ev.step (fun _ => shelfmarklaw04_RecordAreas.j0.eq_2 ..) ?_
      simp only [Bool.false_eq_true, if_false]
      refine Ev.bind (area_ev a0 l2 l3) ?_
      refine Ev.bind (refArea_ev a0 l2 l3) ?_
      simp only [beq_self_eq_true, Bool.and_self, if_true]
      refine Ev.bind (lies_ev l1 l2 l3) ?_
      refine Ev.bind (refLies_ev l1 l2 l3) ?_
      simpa using Ev.now true
end Go.Proofs.YtieifhjjjlmkbaaDoor.Pure
