/- DERIVED. What becomes of any map by any plan, or why not, is as the document says. Conditions: none but those of the statement. -/
import Derived.Test.YtmgjccpolkhhhaaAq
import Derived.Test.YtmgjccpolkhhhaaRs
import Derived.Test.YtmgjccpolkhhhaaPAllx10
import Derived.Test.YtmgjccpolkhhhaaPAllx21
import Derived.Test.YtmgjccpolkhhhaaPAllx17
import Derived.Test.YtmgjccpolkhhhaaPAllx21
namespace Go.Proofs.Ytmgjccpolkhhhaa.Pure
open Go.RowKit Go.Proofs.Ytmgjccpolkhhhaa.PAll Go.Proofs.YtmgjccpolkhhhaaW.PrintWords Go.Proofs.YtmgjccpolkhhhaaW.PrintLast Go.Proofs.Ytmgjccpolkhhhaa.Ap Go.Proofs.Ytmgjccpolkhhhaa.Aq Go.Proofs.Ytmgjccpolkhhhaa.Rs Go.Proofs.Ytmgjccpolkhhhaa.Ig
set_option linter.unusedSimpArgs false
set_option linter.unusedVariables false
theorem awake_AtlasPlans : Ev (fun k => shelfmarklaw12_awake.f k) true := Ev.of shelfmarklaw12_awake.mono (k := 40) (by decide +kernel)
theorem max_lt {n : Nat} (h : n ≤ maxLen) : n < 9223372036854775808 := by unfold maxLen at h; omega
def actS (ep : Int) (l : List S46) (kind : Int) (a : ByteArray) (n : Int) : Int × List S46 × Int :=
  if kind = 1 then splitS ep l a else if kind = 2 then mergeS ep l a else if kind = 3 then moveS ep l a n else (ep, l, 0)
theorem act_ev (ep : Int) (l : List S46) (kind : Int) (a : ByteArray) (n : Int) (hl : l.length < 9223372036854775808) : Ev (fun k => shelfmarklaw12_act.f k ep l kind a n) (actS ep l kind a n) := by
  unfold shelfmarklaw12_act.f actS
  by_cases h1 : kind = 1
  · simp only [if_pos h1]; exact Ev.bind (Split_ev ep l a hl) (Ev.now _)
  · by_cases h2 : kind = 2
    · simp only [if_neg h1, if_pos h2]; exact Ev.bind (Merge_ev ep l a hl) (Ev.now _)
    · by_cases h3 : kind = 3
      · simp only [if_neg h1, if_neg h2, if_pos h3]; exact Ev.bind (Move_ev ep l a n hl) (Ev.now _)
      · simp only [if_neg h1, if_neg h2, if_neg h3]; exact Ev.now _
theorem does_ev (ep : Int) (l : List S46) (kind : Int) (a : ByteArray) (n : Int) (hl : l.length < 9223372036854775808) : Ev (fun k => shelfmarklaw12_does.f k ep l kind a n) (actS ep l kind a n) := by
  unfold shelfmarklaw12_does.f actS
  by_cases h1 : kind = 1
  · simp only [if_pos h1]; exact Ev.bind (RSplit_ev ep l a hl) (Ev.now _)
  · by_cases h2 : kind = 2
    · simp only [if_neg h1, if_pos h2]; exact Ev.bind (RMerge_ev ep l a hl) (Ev.now _)
    · by_cases h3 : kind = 3
      · simp only [if_neg h1, if_neg h2, if_pos h3]; exact Ev.bind (RMove_ev ep l a n hl) (Ev.now _)
      · simp only [if_neg h1, if_neg h2, if_neg h3]; exact Ev.now _
theorem actS_len (ep : Int) (l : List S46) (kind : Int) (a : ByteArray) (n : Int) (hl : l.length < 9223372036854775808) : (actS ep l kind a n).2.1.length < 9223372036854775808 := by
  have key : ∀ c, chk ep l = c → c = 0 → l.length ≤ 8 := fun c h h0 => (chk_zero.1 (h.trans h0)).2.2.le
  unfold actS splitS mergeS moveS
  by_cases h : chk ep l = 0
  · have := key _ h rfl
    repeat' split
    all_goals (simp; try omega)
  · simp only [if_neg h]
    repeat' split
    all_goals (simp; try omega)
theorem AtlasPlans (x0 : S24) (w0 : WF24 x0) (x1 : S40) (w1 : WF40 x1) : ∃ k, shelfmarklaw12_AtlasPlans.f k x0.f0 x0.f1 x1.f0 x1.f1 x1.f2 = some true := by
  have hl := max_lt w0.2.1
  suffices h : Ev (fun k => shelfmarklaw12_AtlasPlans.f k x0.f0 x0.f1 x1.f0 x1.f1 x1.f2) true from h.rounds
  unfold shelfmarklaw12_AtlasPlans.f
  refine Ev.bind awake_AtlasPlans ?_
  simp only [if_true]
  obtain ⟨b, hb, _⟩ := Light_ev x0.f0 x0.f1 hl
  refine Ev.bind hb ?_
  have hend : Ev (fun k => shelfmarklaw12_AtlasPlans.j0 k true x0.f0 x0.f1 x1.f0 x1.f1 x1.f2) true := by
    refine Ev.step (fun _ => shelfmarklaw12_AtlasPlans.j0.eq_2 ..) ?_
    simp only [if_true]; exact Ev.now _
  cases b with
  | false => simp only [Bool.false_eq_true, if_false]; exact hend
  | true =>
    simp only [if_true]
    cases hs : decide ((x1.f1.size : Int) > 300) with
    | true => exact hend
    | false =>
      refine Ev.step (fun _ => shelfmarklaw12_AtlasPlans.j0.eq_2 ..) ?_
      simp only [Bool.false_eq_true, if_false]
      refine Ev.bind (act_ev x0.f0 x0.f1 x1.f0 x1.f1 x1.f2 hl) ?_
      refine Ev.bind (does_ev x0.f0 x0.f1 x1.f0 x1.f1 x1.f2 hl) ?_
      refine Ev.bind (Same_refl _ _ (actS_len _ _ _ _ _ hl)) ?_
      simp only [if_true, beq_self_eq_true]
      exact Ev.now _
end Go.Proofs.Ytmgjccpolkhhhaa.Pure
