/- DERIVED. Entries of one index stand by what is shown, then by the records' keys; those of a lesser index ahead. Conditions: those of the statement. -/
import Derived.Test.YtieifhjjjlmkbaaDoorPOrdx12
import Derived.Test.YtieifhjjjlmkbaaDoorPOrdx9
import Derived.Test.YtieifhjjjlmkbaaDoorQRecordOrder
import Derived.Test.YtieifhjjjlmkbaaDoorRs
namespace Go.Proofs.YtieifhjjjlmkbaaDoor.Pure
open Go.RowKit Go.Proofs.YtieifhjjjlmkbaaDoor.POrd Go.Proofs.YtieifhjjjlmkbaaDoorW.PrintWords Go.Proofs.YtieifhjjjlmkbaaDoorW.PrintLast Go.Proofs.YtieifhjjjlmkbaaDoor.Hl Go.Proofs.YtieifhjjjlmkbaaDoor.Tl Go.Proofs.YtieifhjjjlmkbaaDoor.Tk Go.Proofs.YtieifhjjjlmkbaaDoor.Tc Go.Proofs.YtieifhjjjlmkbaaDoor.Ty Go.Proofs.YtieifhjjjlmkbaaDoor.To Go.Proofs.YtieifhjjjlmkbaaDoor.Vl Go.Proofs.YtieifhjjjlmkbaaDoor.Va Go.Proofs.YtieifhjjjlmkbaaDoor.Vf Go.Proofs.YtieifhjjjlmkbaaDoor.Rs
set_option linter.unusedSimpArgs false
set_option linter.unusedVariables false
theorem awake_RecordOrder : Ev (fun k => shelfmarklaw04_awake.f k) true := Ev.of shelfmarklaw04_awake.mono (k := 30) (by decide +kernel)
theorem range_of {l : List S41} (h : ∀ x ∈ l, WF41 x) : ∀ v ∈ l, -9223372036854775808 ≤ v.f1 ∧ v.f1 < 9223372036854775808 := by
  intro v hv
  have := (h v hv).2.1
  simp [Lit.wf, IntKind.has, IntKind.min, IntKind.max, IntKind.bits, IntKind.signed] at this
  omega
theorem eq_less (s t : List UInt8) : (s == t) = (!(Op.bytesLess s t) && !(Op.bytesLess t s)) := by
  cases h1 : Op.bytesLess s t with
  | true =>
    have : s ≠ t := by intro e; rw [e, less_irr] at h1; cases h1
    simpa using this
  | false =>
    cases h2 : Op.bytesLess t s with
    | true =>
      have : s ≠ t := by intro e; rw [e, less_irr] at h2; cases h2
      simpa using this
    | false =>
      have := less_tri _ _ h1 h2
      simpa using this
theorem RecordOrder (x0 : S34) (w0 : WF34 x0) (l1 : List (S41)) (w1 : l1.length ≤ maxLen ∧ ∀ x ∈ l1, WF41 x) (y1 : l1.length * 32 ≤ 140737488351232) (l2 : List (S41)) (w2 : l2.length ≤ maxLen ∧ ∀ x ∈ l2, WF41 x) (y2 : l2.length * 32 ≤ 140737488351232) (x3 : S35) (w3 : WF35 x3) : ∃ k, shelfmarklaw04_RecordOrder.f k x0.f0 x0.f1 l1 l2 x3.f0 x3.f1 = some true := by
  refine Ev.rounds ?_
  unfold shelfmarklaw04_RecordOrder.f
  refine Ev.bind awake_RecordOrder ?_
  simp only [if_true]
  have hend : Ev (fun k => shelfmarklaw04_RecordOrder.j0 k l1 l2 true x0.f0 x0.f1 x3.f0 x3.f1) true := by
    refine Ev.step (fun _ => shelfmarklaw04_RecordOrder.j0.eq_2 ..) ?_
    simp only [if_true]
    exact Ev.now _
  refine Ev.bind (light2_ev l1 l2) ?_
  cases h : (lightB 1000 l1 0 0 && lightB 1000 l2 0 0) with
  | false =>
    simp only [Bool.false_eq_true, if_false]
    exact hend
  | true =>
    simp only [if_true]
    by_cases h3 : (x3.f0.size : Int) > 1000
    · simp only [if_pos h3]
      exact hend
    · simp only [if_neg h3]
      by_cases h4 : (x3.f1.size : Int) > 1000
      · simp only [decide_eq_true h4]
        exact hend
      · simp only [decide_eq_false h4]
        refine Ev.step (fun _ => shelfmarklaw04_RecordOrder.j0.eq_2 ..) ?_
        simp only [Bool.false_eq_true, if_false]
        refine Ev.bind (entry_ev x0.f0 l1 x3.f0 (by omega) (by omega)) ?_
        refine Ev.bind (entry_ev x0.f1 l2 x3.f1 (by omega) (by omega)) ?_
        by_cases he : entryE x0.f0 l1 x3.f0 = 0
        · have eR : entryR x0.f0 l1 x3.f0 = (((front x0.f0 ++ strOfNums (keyL l1)) ++ (⟨#[0]⟩ : ByteArray)) ++ x3.f0, 0) := by unfold entryR; rw [if_pos he]
          by_cases hf : entryE x0.f1 l2 x3.f1 = 0
          · have fR : entryR x0.f1 l2 x3.f1 = (((front x0.f1 ++ strOfNums (keyL l2)) ++ (⟨#[0]⟩ : ByteArray)) ++ x3.f1, 0) := by unfold entryR; rw [if_pos hf]
            obtain ⟨hi, _, _, ga, _⟩ := entry_ok he
            obtain ⟨hj, _, _, gb, _⟩ := entry_ok hf
            have ra := entry_row he
            have rb := entry_row hf
            simp only [eR, fR, if_true]
            refine Ev.bind (refCompare_ev l1 l2) ?_
            rw [cmpA_ok ra rb]
            have hL := front_less x0.f0 x0.f1 hi hj (rowB l1 ++ 0 :: x3.f0.data.toList) (rowB l2 ++ 0 :: x3.f1.data.toList)
            have hM := front_less x0.f1 x0.f0 hj hi (rowB l2 ++ 0 :: x3.f1.data.toList) (rowB l1 ++ 0 :: x3.f0.data.toList)
            rw [both_less _ _ l1 l2 ga gb (range_of w1.2) (range_of w2.2), ← entry_data, ← entry_data, ← Lib.toList_data, ← Lib.toList_data, ← Lib.toList_data, ← Lib.toList_data] at hL
            rw [both_less _ _ l2 l1 gb ga (range_of w2.2) (range_of w1.2), cmpR_anti l1 l2, ← entry_data, ← entry_data, ← Lib.toList_data, ← Lib.toList_data, ← Lib.toList_data, ← Lib.toList_data] at hM
            rw [eq_less, hL, hM]
            generalize cmpR l1 l2 = c
            by_cases q1 : x0.f0 < x0.f1
            · have n1 : ¬ x0.f0 = x0.f1 := by omega
              have n2 : ¬ x0.f1 = x0.f0 := by omega
              simp only [if_pos q1, if_neg n1, if_neg n2, decide_eq_true q1]
              simpa using Ev.now true
            · by_cases q2 : x0.f0 = x0.f1
              · have q3 := q2.symm
                simp only [if_neg q1, if_pos q2, if_pos q3]
                by_cases c1 : c < 0
                · have c2 : ¬ c = 0 := by omega
                  have c3 : ¬ -c = 0 := by omega
                  simp only [if_pos c1, if_neg c2, if_neg c3, decide_eq_true c1]
                  simpa using Ev.now true
                · by_cases c2 : c = 0
                  · subst c2
                    have c3 : (-(0 : Int)) = 0 := rfl
                    simp only [c3, if_true, if_neg c1, beq_self_eq_true]
                    rw [eq_less x3.f0.toList]
                    simpa using Ev.now true
                  · have c3 : ¬ -c = 0 := by omega
                    have c4 : -c < 0 := by omega
                    simp only [if_neg c1, if_neg c2, if_neg c3, decide_eq_false c1, decide_eq_true c4]
                    simpa using Ev.now true
              · have n2 : ¬ x0.f1 = x0.f0 := by omega
                have n3 : x0.f1 < x0.f0 := by omega
                simp only [if_neg q1, if_neg q2, if_neg n2, decide_eq_false q1, decide_eq_true n3]
                simpa using Ev.now true
          · have fR : entryR x0.f1 l2 x3.f1 = (⟨#[]⟩, entryE x0.f1 l2 x3.f1) := by unfold entryR; rw [if_neg hf]
            simp only [eR, fR, if_true, if_neg hf]
            exact Ev.now _
        · have eR : entryR x0.f0 l1 x3.f0 = (⟨#[]⟩, entryE x0.f0 l1 x3.f0) := by unfold entryR; rw [if_neg he]
          simp only [eR, if_neg he]
          exact Ev.now _
end Go.Proofs.YtieifhjjjlmkbaaDoor.Pure
