/- DERIVED. Whether any map is right, where a text is in it, and what its parts have, are as the document says. Conditions: none but those of the statement. -/
import Derived.Test.YtmgjccpolkhhhaaAp
import Derived.Test.YtmgjccpolkhhhaaRs
import Derived.Test.YtmgjccpolkhhhaaPAllx10
import Derived.Test.YtmgjccpolkhhhaaPAllx15
namespace Go.Proofs.Ytmgjccpolkhhhaa.Pure
open Go.RowKit Go.Proofs.Ytmgjccpolkhhhaa.PAll Go.Proofs.YtmgjccpolkhhhaaW.PrintWords Go.Proofs.YtmgjccpolkhhhaaW.PrintLast Go.Proofs.Ytmgjccpolkhhhaa.Ap Go.Proofs.Ytmgjccpolkhhhaa.Rs
set_option linter.unusedSimpArgs false
set_option linter.unusedVariables false
theorem awake_AtlasChecks : Ev (fun k => shelfmarklaw12_awake.f k) true := Ev.of shelfmarklaw12_awake.mono (k := 40) (by decide +kernel)
theorem max_lt {n : Nat} (h : n ≤ maxLen) : n < 9223372036854775808 := by unfold maxLen at h; omega
theorem AtlasChecks (x0 : S24) (w0 : WF24 x0) (a1 : ByteArray) (w1 : a1.size ≤ 140737488351232) (a2 : Int) (w2 : (Lit.int .i64 a2).wf = true) : ∃ k, shelfmarklaw12_AtlasChecks.f k x0.f0 x0.f1 a1 a2 = some true := by
  have hl := max_lt w0.2.1
  suffices h : Ev (fun k => shelfmarklaw12_AtlasChecks.f k x0.f0 x0.f1 a1 a2) true from h.rounds
  unfold shelfmarklaw12_AtlasChecks.f
  refine Ev.bind awake_AtlasChecks ?_
  simp only [if_true]
  obtain ⟨b, hb, _⟩ := Light_ev x0.f0 x0.f1 hl
  refine Ev.bind hb ?_
  have hend : Ev (fun k => shelfmarklaw12_AtlasChecks.j0 k a1 a2 true x0.f0 x0.f1) true := by
    refine Ev.step (fun _ => shelfmarklaw12_AtlasChecks.j0.eq_2 ..) ?_
    simp only [if_true]; exact Ev.now _
  cases b with
  | false => simp only [Bool.false_eq_true, if_false]; exact hend
  | true =>
    simp only [if_true]
    cases hs : decide ((a1.size : Int) > 300) with
    | true => exact hend
    | false =>
      refine Ev.step (fun _ => shelfmarklaw12_AtlasChecks.j0.eq_2 ..) ?_
      simp only [Bool.false_eq_true, if_false]
      refine Ev.bind (Find_ev x0.f0 x0.f1 a1 hl) ?_
      refine Ev.bind (RFind_ev x0.f0 x0.f1 a1 hl) ?_
      refine Ev.bind (Of_ev x0.f0 x0.f1 a2 hl) ?_
      refine Ev.bind (ROf_ev x0.f0 x0.f1 a2 hl) ?_
      obtain ⟨⟨e, p, c⟩, hr⟩ := Start_some a2
      have hr2 := hr
      rw [Start_eq] at hr2
      simp only [hr, hr2, Option.bind_some]
      refine Ev.bind (Check_ev x0.f0 x0.f1 hl) ?_
      refine Ev.bind (RCheck_ev x0.f0 x0.f1 hl) ?_
      simp only [if_true, beq_self_eq_true, Bool.and_self]
      have hp : p.length < 9223372036854775808 := by
        unfold shelfmarkref12_Start.f at hr2
        split at hr2
        · cases hr2; simp
        · split at hr2 <;> cases hr2 <;> simp
      exact Ev.bind (Same_refl e p hp) (Ev.now _)
end Go.Proofs.Ytmgjccpolkhhhaa.Pure
