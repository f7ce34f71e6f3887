/- DERIVED. Behind all texts that begin with one stands the next one, and nothing lies between. Conditions: those of the statement. -/
import Derived.Test.YtdaidcfpikeooaaDoorPAllx9
import Derived.Test.YtdaidcfpikeooaaDoorPAllx6
import Derived.Test.YtdaidcfpikeooaaDoorTn
namespace Go.Proofs.YtdaidcfpikeooaaDoor.Pure
open Go.RowKit Go.Proofs.YtdaidcfpikeooaaDoor.PAll Go.Proofs.YtdaidcfpikeooaaDoorW.PrintWords Go.Proofs.YtdaidcfpikeooaaDoorW.PrintLast Go.Proofs.YtdaidcfpikeooaaDoor.Hl Go.Proofs.YtdaidcfpikeooaaDoor.Tn
set_option linter.unusedSimpArgs false
theorem awake_TupleNext : Ev (fun k => shelfmarklaw03_awake.f k) true := Ev.of shelfmarklaw03_awake.mono (k := 30) (by decide +kernel)
theorem TupleNext : shelfmarklaw03_TupleNext.Pure := by
  intro a0 a1 w0 w1
  refine Ev.rounds ?_
  unfold shelfmarklaw03_TupleNext.f
  refine Ev.bind awake_TupleNext ?_
  simp only [if_true]
  have hend : Ev (fun k => shelfmarklaw03_TupleNext.j0 k a0 a1 true) true := by
    refine Ev.step (fun _ => shelfmarklaw03_TupleNext.j0.eq_2 ..) ?_
    simp only [if_true]
    exact Ev.now _
  by_cases h : (a0.size : Int) > 200
  · simp only [if_pos h]
    exact hend
  · simp only [if_neg h]
    by_cases h2 : (a1.size : Int) > 200
    · simp only [decide_eq_true h2]
      exact hend
    · simp only [decide_eq_false h2]
      refine Ev.step (fun _ => shelfmarklaw03_TupleNext.j0.eq_2 ..) ?_
      simp only [Bool.false_eq_true, if_false, tuple_Next.f, shelfmarkref03_Next.f, if_pos w0, Option.bind_some, if_true, next_toList, Int.toNat_natCast]
      have hl := begins_next a0.toList a1.toList
      by_cases h3 : (a1.size : Int) ≥ (a0.size : Int)
      · have h3' : (a0.size : Int) ≤ (a1.size : Int) := h3
        have h4 : (0 : Int) ≤ (a0.size : Int) := by omega
        simp only [if_pos h3, if_pos h3', if_pos h4, begins_cut a0 a1 (by omega), hl]
        by_cases h5 : nb a0.toList = []
        · simp only [if_pos h5, h5]
          simpa using Ev.now true
        · have h6 : (nb a0.toList == []) = false := by rw [beq_eq_false_iff_ne]; exact h5
          simp only [if_neg h5, h6]
          by_cases h7 : Op.bytesLess a1.toList a0.toList = true
          · simp only [if_pos h7, h7]
            simpa using Ev.now true
          · simp only [if_neg h7, Bool.eq_false_iff.2 h7]
            simpa using Ev.now true
      · rw [begins_short a0 a1 (by omega)] at hl
        simp only [if_neg h3]
        by_cases h5 : nb a0.toList = []
        · simp only [if_pos h5]
          rw [h5] at hl
          simp only [beq_self_eq_true, Bool.true_or, Bool.and_true] at hl
          simp only [← hl]
          simpa using Ev.now true
        · have h6 : (nb a0.toList == []) = false := by rw [beq_eq_false_iff_ne]; exact h5
          simp only [if_neg h5]
          by_cases h7 : Op.bytesLess a1.toList a0.toList = true
          · simp only [if_pos h7]
            simpa using Ev.now true
          · simp only [if_neg h7]
            rw [h6, Bool.eq_false_iff.2 h7] at hl
            simp only [Bool.not_false, Bool.true_and, Bool.false_or] at hl
            simp only [← hl]
            simpa using Ev.now true
end Go.Proofs.YtdaidcfpikeooaaDoor.Pure
