/- DERIVED. An entry stands in an area's range just if it is of that index, and what is shown lies in the area. Conditions: those of the statement. -/
import Derived.Test.YtieifhjjjlmkbaaDoorPAllx10
import Derived.Test.YtieifhjjjlmkbaaDoorPAllx24
import Derived.Test.YtieifhjjjlmkbaaDoorQRecordFinds
import Derived.Test.YtieifhjjjlmkbaaDoorRs
namespace Go.Proofs.YtieifhjjjlmkbaaDoor.Pure
open Go.RowKit Go.Proofs.YtieifhjjjlmkbaaDoor.PAll Go.Proofs.YtieifhjjjlmkbaaDoorW.PrintWords Go.Proofs.YtieifhjjjlmkbaaDoorW.PrintLast Go.Proofs.YtieifhjjjlmkbaaDoor.Hl Go.Proofs.YtieifhjjjlmkbaaDoor.Tl Go.Proofs.YtieifhjjjlmkbaaDoor.Tk Go.Proofs.YtieifhjjjlmkbaaDoor.Vl Go.Proofs.YtieifhjjjlmkbaaDoor.Va Go.Proofs.YtieifhjjjlmkbaaDoor.Vf Go.Proofs.YtieifhjjjlmkbaaDoor.Rs
set_option linter.unusedSimpArgs false
set_option linter.unusedVariables false
theorem awake_RecordFinds : Ev (fun k => shelfmarklaw04_awake.f k) true := Ev.of shelfmarklaw04_awake.mono (k := 30) (by decide +kernel)
theorem range_of {l : List S41} (h : ∀ x ∈ l, WF41 x) : ∀ v ∈ l, -9223372036854775808 ≤ v.f1 ∧ v.f1 < 9223372036854775808 := by
  intro v hv
  have := (h v hv).2.1
  simp [Lit.wf, IntKind.has, IntKind.min, IntKind.max, IntKind.bits, IntKind.signed] at this
  omega
theorem nil_list : (⟨#[]⟩ : ByteArray).toList = ([] : List UInt8) := by rw [Lib.toList_data]
theorem RecordFinds (a0 : Int) (w0 : (Lit.int .i64 a0).wf = true) (a1 : Int) (w1 : (Lit.int .i64 a1).wf = true) (l2 : List (S41)) (w2 : l2.length ≤ maxLen ∧ ∀ x ∈ l2, WF41 x) (y2 : l2.length * 32 ≤ 140737488351232) (l3 : List (S41)) (w3 : l3.length ≤ maxLen ∧ ∀ x ∈ l3, WF41 x) (y3 : l3.length * 32 ≤ 140737488351232) (l4 : List (S41)) (w4 : l4.length ≤ maxLen ∧ ∀ x ∈ l4, WF41 x) (y4 : l4.length * 32 ≤ 140737488351232) (a5 : ByteArray) (w5 : a5.size ≤ 140737488351232) : ∃ k, shelfmarklaw04_RecordFinds.f k a0 a1 l2 l3 l4 a5 = some true := by
  refine Ev.rounds ?_
  unfold shelfmarklaw04_RecordFinds.f
  refine Ev.bind awake_RecordFinds ?_
  simp only [if_true]
  have hend : Ev (fun k => shelfmarklaw04_RecordFinds.j0 k a0 a1 l2 l3 l4 a5 true) true := by
    refine Ev.step (fun _ => shelfmarklaw04_RecordFinds.j0.eq_2 ..) ?_
    simp only [if_true]
    exact Ev.now _
  refine Ev.bind (light2_ev l2 l3) ?_
  cases h : (lightB 1000 l2 0 0 && lightB 1000 l3 0 0) with
  | false =>
    simp only [Bool.false_eq_true, if_false]
    exact hend
  | true =>
    simp only [if_true]
    refine Ev.bind (light2_ev l4 []) ?_
    cases h2 : (lightB 1000 l4 0 0 && lightB 1000 [] 0 0) with
    | false =>
      simp only [Bool.false_eq_true, if_false]
      exact hend
    | true =>
      simp only [if_true]
      by_cases h3 : (a5.size : Int) > 1000
      · simp only [decide_eq_true h3]
        exact hend
      · simp only [decide_eq_false h3]
        refine Ev.step (fun _ => shelfmarklaw04_RecordFinds.j0.eq_2 ..) ?_
        simp only [Bool.false_eq_true, if_false]
        refine Ev.bind (entry_ev a1 l2 a5 (by omega) w5) ?_
        refine Ev.bind (area_ev a0 l3 l4) ?_
        by_cases he : entryE a1 l2 a5 = 0
        · obtain ⟨ho, _⟩ := entry_ok he
          have hr2 := entry_row he
          have eR : entryR a1 l2 a5 = (((front a1 ++ strOfNums (keyL l2)) ++ (⟨#[0]⟩ : ByteArray)) ++ a5, 0) := by unfold entryR; rw [if_pos he]
          by_cases hf : (areaR a0 l3 l4).2.2 = 0
          · have hA : (1 ≤ a0 ∧ a0 ≤ 6) ∧ rowE l3 = 0 ∧ rowE l4 = 0 := by
              unfold areaR at hf
              by_cases q1 : 1 ≤ a0 ∧ a0 ≤ 6
              · rw [if_pos q1] at hf
                by_cases q2 : rowE l3 = 0
                · rw [if_pos q2] at hf
                  by_cases q3 : rowE l4 = 0
                  · exact ⟨q1, q2, q3⟩
                  · rw [if_neg q3] at hf; exact absurd hf q3
                · rw [if_neg q2] at hf; exact absurd hf q2
              · rw [if_neg q1] at hf; cases hf
            obtain ⟨hi, hr3, hr4⟩ := hA
            have aR : areaR a0 l3 l4 = (front a0 ++ strOfNums (keyL l3), strOfNums (nextL (bytesOf (front a0 ++ strOfNums (keyL l4)))), 0) := by unfold areaR; rw [if_pos hi, if_pos hr3, if_pos hr4]
            simp only [eR, aR, if_true, bne_self_eq_false]
            refine Ev.step (fun _ => shelfmarklaw04_RecordFinds.j1.eq_2 ..) ?_
            simp only [Bool.false_eq_true, if_false, in_range a0 a1 hi ho l2 l3 l4 hr2 hr3 hr4 (range_of w2.2) (range_of w3.2) (range_of w4.2) a5, Option.bind_some]
            by_cases hio : a0 = a1
            · simp only [if_pos hio, decide_eq_true hio, Bool.true_and]
              refine Ev.bind (lies_ev l2 l3 l4) ?_
              simpa using Ev.now true
            · simp only [if_neg hio, decide_eq_false hio, Bool.false_and]
              simpa using Ev.now true
          · have hb : ((areaR a0 l3 l4).2.2 != 0) = true := by simpa using hf
            have hnil : (areaR a0 l3 l4).1 = ⟨#[]⟩ ∧ (areaR a0 l3 l4).2.1 = ⟨#[]⟩ := by
              unfold areaR at hf ⊢
              by_cases q1 : 1 ≤ a0 ∧ a0 ≤ 6
              · rw [if_pos q1] at hf ⊢
                by_cases q2 : rowE l3 = 0
                · rw [if_pos q2] at hf ⊢
                  by_cases q3 : rowE l4 = 0
                  · rw [if_pos q3] at hf; exact absurd rfl hf
                  · rw [if_neg q3]; exact ⟨rfl, rfl⟩
                · rw [if_neg q2]; exact ⟨rfl, rfl⟩
              · rw [if_neg q1]; exact ⟨rfl, rfl⟩
            simp only [eR, if_true, hb]
            refine Ev.step (fun _ => shelfmarklaw04_RecordFinds.j1.eq_2 ..) ?_
            simp only [if_true, if_neg hf, hnil.1, hnil.2, nil_list, beq_self_eq_true, Bool.and_self, ite_self]
            exact Ev.now _
        · have eR : entryR a1 l2 a5 = (⟨#[]⟩, entryE a1 l2 a5) := by unfold entryR; rw [if_neg he]
          simp only [eR, if_neg he]
          refine Ev.step (fun _ => shelfmarklaw04_RecordFinds.j1.eq_2 ..) ?_
          simp only [if_true, nil_list]
          exact Ev.now _
end Go.Proofs.YtieifhjjjlmkbaaDoor.Pure
