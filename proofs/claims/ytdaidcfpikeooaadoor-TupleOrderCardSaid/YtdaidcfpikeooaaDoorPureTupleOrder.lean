/- DERIVED. The keys of rows stand as the rows do. Conditions: those of the statement. -/
import Derived.Test.YtdaidcfpikeooaaDoorPAllx18
import Derived.Test.YtdaidcfpikeooaaDoorTo
import Derived.Test.YtdaidcfpikeooaaDoorRs
namespace Go.Proofs.YtdaidcfpikeooaaDoor.Pure
open Go.RowKit Go.Proofs.YtdaidcfpikeooaaDoor.PAll Go.Proofs.YtdaidcfpikeooaaDoorW.PrintWords Go.Proofs.YtdaidcfpikeooaaDoorW.PrintLast Go.Proofs.YtdaidcfpikeooaaDoor.Hl Go.Proofs.YtdaidcfpikeooaaDoor.Tl Go.Proofs.YtdaidcfpikeooaaDoor.Tb Go.Proofs.YtdaidcfpikeooaaDoor.Tk Go.Proofs.YtdaidcfpikeooaaDoor.Tc Go.Proofs.YtdaidcfpikeooaaDoor.Tr Go.Proofs.YtdaidcfpikeooaaDoor.Tu Go.Proofs.YtdaidcfpikeooaaDoor.Tv Go.Proofs.YtdaidcfpikeooaaDoor.To Go.Proofs.YtdaidcfpikeooaaDoor.Rs
set_option linter.unusedSimpArgs false
set_option linter.unusedVariables false
theorem awake_TupleOrder : Ev (fun k => shelfmarklaw03_awake.f k) true := Ev.of shelfmarklaw03_awake.mono (k := 30) (by decide +kernel)
theorem range_of {l : List S37} (h : ∀ x ∈ l, WF37 x) : ∀ v ∈ l, -9223372036854775808 ≤ v.f1 ∧ v.f1 < 9223372036854775808 := by
  intro v hv
  have := (h v hv).2.1
  simp [Lit.wf, IntKind.has, IntKind.min, IntKind.max, IntKind.bits, IntKind.signed] at this
  omega
theorem TupleOrder (l0 : List (S37)) (w0 : l0.length ≤ maxLen ∧ ∀ x ∈ l0, WF37 x) (y0 : l0.length * 32 ≤ 140737488351232) (l1 : List (S37)) (w1 : l1.length ≤ maxLen ∧ ∀ x ∈ l1, WF37 x) (y1 : l1.length * 32 ≤ 140737488351232) : ∃ k, shelfmarklaw03_TupleOrder.f k l0 l1 = some true := by
  refine Ev.rounds ?_
  unfold shelfmarklaw03_TupleOrder.f
  refine Ev.bind awake_TupleOrder ?_
  simp only [if_true]
  have hend : Ev (fun k => shelfmarklaw03_TupleOrder.j0 k l0 l1 true) true := by
    refine Ev.step (fun _ => shelfmarklaw03_TupleOrder.j0.eq_2 ..) ?_
    simp only [if_true]
    exact Ev.now _
  refine Ev.bind (light_ev l0 2000 (by omega)) ?_
  by_cases h : lightB 2000 l0 0 0 = true
  · simp only [h, if_true]
    refine Ev.bind (light_ev l1 2000 (by omega)) ?_
    by_cases h1 : lightB 2000 l1 0 0 = true
    · simp only [h1, Bool.not_true]
      refine Ev.step (fun _ => shelfmarklaw03_TupleOrder.j0.eq_2 ..) ?_
      simp only [Bool.false_eq_true, if_false]
      refine Ev.bind (key_ev l0) ?_
      refine Ev.bind (key_ev l1) ?_
      have hbad : ∀ s t : ByteArray, (rowE l0 = 0 → rowE l1 ≠ 0) → Ev (fun k => shelfmarklaw03_TupleOrder.j1 k l0 l1 s t true) true := by
        intro s t hh
        refine Ev.step (fun _ => shelfmarklaw03_TupleOrder.j1.eq_2 ..) ?_
        simp only [if_true]
        refine Ev.bind (compare_ev l0 l1) ?_
        have : cmpA l0 l1 = 0 := by
          unfold cmpA
          by_cases e : rowE l0 = 0
          · rw [if_pos e, if_neg (hh e)]
          · rw [if_neg e]
        rw [this]
        exact Ev.now _
      unfold keyR
      by_cases hr : rowE l0 = 0
      · by_cases hq : rowE l1 = 0
        · simp only [if_pos hr, if_pos hq, if_true, bne_self_eq_false]
          refine Ev.step (fun _ => shelfmarklaw03_TupleOrder.j1.eq_2 ..) ?_
          simp only [Bool.false_eq_true, if_false]
          refine Ev.bind (compare_ev l0 l1) ?_
          have hc : cmpA l0 l1 = cmpR l0 l1 := by unfold cmpA; rw [if_pos hr, if_pos hq]
          have hc2 : cmpA l1 l0 = cmpR l1 l0 := by unfold cmpA; rw [if_pos hq, if_pos hr]
          have g0 := (Tk.row_ok hr).2
          have g1 := (Tk.row_ok hq).2
          have e1 : Op.bytesLess (strOfNums (keyL l0)).toList (strOfNums (keyL l1)).toList = decide (cmpR l0 l1 < 0) := by
            rw [Lib.toList_data, Lib.toList_data, key_bytes, key_bytes]
            exact row_less l0 l1 g0 g1 (range_of w0.2) (range_of w1.2)
          have e2 : Op.bytesLess (strOfNums (keyL l1)).toList (strOfNums (keyL l0)).toList = decide (cmpR l0 l1 > 0) := by
            rw [Lib.toList_data, Lib.toList_data, key_bytes, key_bytes, row_less l1 l0 g1 g0 (range_of w1.2) (range_of w0.2), cmpR_anti l0 l1]
            by_cases z : cmpR l0 l1 > 0
            · rw [decide_eq_true z, decide_eq_true (by omega)]
            · rw [decide_eq_false z, decide_eq_false (by omega)]
          rw [hc, e1, e2]
          simp only [beq_self_eq_true, if_true]
          refine Ev.bind (compare_ev l1 l0) ?_
          have hr2 := cmpR_range l0 l1
          rw [hc2, cmpR_anti l0 l1, w64 (by omega) (by omega)]
          simpa using Ev.now true
        · have e : (rowE l1 != 0) = true := by simpa using hq
          simp only [if_pos hr, if_neg hq, if_true, e]
          exact hbad _ _ (fun _ => hq)
      · simp only [if_neg hr]
        exact hbad _ _ (fun e => absurd e hr)
    · have h1' : lightB 2000 l1 0 0 = false := by simpa using h1
      simp only [h1', Bool.not_false]
      exact hend
  · have h' : lightB 2000 l0 0 0 = false := by simpa using h
    simp only [h', Bool.false_eq_true, if_false]
    exact hend
end Go.Proofs.YtdaidcfpikeooaaDoor.Pure
