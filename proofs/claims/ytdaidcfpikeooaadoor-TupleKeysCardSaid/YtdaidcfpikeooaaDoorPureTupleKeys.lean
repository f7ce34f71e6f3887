/- DERIVED. Which values are good, how two rows stand, and the key of any row, are as the document says. Conditions: those of the statement. -/
import Derived.Test.YtdaidcfpikeooaaDoorPAllx17
import Derived.Test.YtdaidcfpikeooaaDoorPAllx6
import Derived.Test.YtdaidcfpikeooaaDoorTk
import Derived.Test.YtdaidcfpikeooaaDoorTc
import Derived.Test.YtdaidcfpikeooaaDoorRs
namespace Go.Proofs.YtdaidcfpikeooaaDoor.Pure
open Go.RowKit Go.Proofs.YtdaidcfpikeooaaDoor.PAll Go.Proofs.YtdaidcfpikeooaaDoorW.PrintWords Go.Proofs.YtdaidcfpikeooaaDoorW.PrintLast Go.Proofs.YtdaidcfpikeooaaDoor.Hl Go.Proofs.YtdaidcfpikeooaaDoor.Tl Go.Proofs.YtdaidcfpikeooaaDoor.Tk Go.Proofs.YtdaidcfpikeooaaDoor.Rs
set_option linter.unusedSimpArgs false
set_option linter.unusedVariables false
theorem awake_TupleKeys : Ev (fun k => shelfmarklaw03_awake.f k) true := Ev.of shelfmarklaw03_awake.mono (k := 30) (by decide +kernel)
theorem keys_l0 (l0 l1 : List S37) (hl : l0.length < 9223372036854775807) : ∀ (m i : Nat), i + m = l0.length → Ev (fun k => shelfmarklaw03_TupleKeys.l0 k l0 l1 (i : Int)) true
  | 0, i, h => by
    refine Ev.step (fun _ => shelfmarklaw03_TupleKeys.l0.eq_2 ..) ?_
    simp only [if_neg (show ¬ (i : Int) < (l0.length : Int) by omega)]
    refine Ev.bind (key_ev l0) ?_
    refine Ev.bind (refKey_ev l0) ?_
    simp only [if_true]
    refine Ev.bind (Tc.compare_ev l0 l1) ?_
    refine Ev.bind (Tc.refCompare_ev l0 l1) ?_
    simpa using Ev.now true
  | m + 1, i, h => by
    have hi : i < l0.length := by omega
    refine Ev.step (fun _ => shelfmarklaw03_TupleKeys.l0.eq_2 ..) ?_
    simp only [if_pos (show (i : Int) < (l0.length : Int) by omega), if_pos (show (0 : Int) ≤ (i : Int) by omega), rd_get l0 i hi, Good_eq, refGood_eq, Option.bind_some, bne_self_eq_false, Bool.false_eq_true, if_false]
    rw [w64 (by omega) (by omega)]
    exact keys_l0 l0 l1 hl m (i + 1) (by omega)
theorem TupleKeys (l0 : List (S37)) (w0 : l0.length ≤ maxLen ∧ ∀ x ∈ l0, WF37 x) (y0 : l0.length * 32 ≤ 140737488351232) (l1 : List (S37)) (w1 : l1.length ≤ maxLen ∧ ∀ x ∈ l1, WF37 x) (y1 : l1.length * 32 ≤ 140737488351232) : ∃ k, shelfmarklaw03_TupleKeys.f k l0 l1 = some true := by
  refine Ev.rounds ?_
  unfold shelfmarklaw03_TupleKeys.f
  refine Ev.bind awake_TupleKeys ?_
  simp only [if_true]
  have hend : Ev (fun k => shelfmarklaw03_TupleKeys.j0 k l0 l1 true) true := by
    refine Ev.step (fun _ => shelfmarklaw03_TupleKeys.j0.eq_2 ..) ?_
    simp only [if_true]
    exact Ev.now _
  refine Ev.bind (light_ev l0 2000 (by omega)) ?_
  by_cases h : lightB 2000 l0 0 0 = true
  · simp only [h, if_true]
    refine Ev.bind (light_ev l1 2000 (by omega)) ?_
    by_cases h2 : lightB 2000 l1 0 0 = true
    · simp only [h2, Bool.not_true]
      refine Ev.step (fun _ => shelfmarklaw03_TupleKeys.j0.eq_2 ..) ?_
      simp only [Bool.false_eq_true, if_false]
      exact keys_l0 l0 l1 (by omega) l0.length 0 (by omega)
    · have h2' : lightB 2000 l1 0 0 = false := by simpa using h2
      simp only [h2', Bool.not_false]
      exact hend
  · have h' : lightB 2000 l0 0 0 = false := by simpa using h
    simp only [h', Bool.false_eq_true, if_false]
    exact hend
end Go.Proofs.YtdaidcfpikeooaaDoor.Pure
