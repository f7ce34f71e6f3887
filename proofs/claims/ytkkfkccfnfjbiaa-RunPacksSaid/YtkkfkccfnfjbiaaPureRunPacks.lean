/- DERIVED. The bytes of any list, and what any bytes are, are as the document says. Conditions: none but those of the statement. -/
import Derived.Test.YtkkfkccfnfjbiaaPAllx15
import Derived.Test.YtkkfkccfnfjbiaaPAllx28
import Derived.Test.YtkkfkccfnfjbiaaQRunPacks
import Derived.Test.YtkkfkccfnfjbiaaRs
namespace Go.Proofs.Ytkkfkccfnfjbiaa.Pure
open Go.RowKit Go.Proofs.Ytkkfkccfnfjbiaa.PAll Go.Proofs.YtkkfkccfnfjbiaaW.PrintWords Go.Proofs.YtkkfkccfnfjbiaaW.PrintLast Go.Proofs.Ytkkfkccfnfjbiaa.Pk Go.Proofs.Ytkkfkccfnfjbiaa.PAllEv Go.Proofs.Ytkkfkccfnfjbiaa.Ra Go.Proofs.Ytkkfkccfnfjbiaa.Rb Go.Proofs.Ytkkfkccfnfjbiaa.Rc Go.Proofs.Ytkkfkccfnfjbiaa.Rd Go.Proofs.Ytkkfkccfnfjbiaa.Re Go.Proofs.Ytkkfkccfnfjbiaa.Rp Go.Proofs.Ytkkfkccfnfjbiaa.Rq Go.Proofs.Ytkkfkccfnfjbiaa.Rs
set_option linter.unusedSimpArgs false
set_option linter.unusedVariables false
theorem awake_RunPacks : Ev (fun k => shelfmarklaw09_awake.f k) true := Ev.of shelfmarklaw09_awake.mono (k := 40) (by decide +kernel)
theorem RunPacks (l0 : List (S37)) (w0 : l0.length ≤ maxLen ∧ ∀ x ∈ l0, WF37 x) (y0 : l0.length * 40 ≤ 140737488351232) (l1 : List Int) (w1 : l1.length ≤ maxLen ∧ ∀ x ∈ l1, (Lit.int .u8 x).wf = true) (y1 : l1.length * 1 ≤ 140737488351232) : ∃ k, shelfmarklaw09_RunPacks.f k l0 l1 = some true := by
  suffices h : Ev (fun k => shelfmarklaw09_RunPacks.f k l0 l1) true from h.rounds
  unfold shelfmarklaw09_RunPacks.f
  refine Ev.bind awake_RunPacks ?_
  simp only [if_true]
  have hend : Ev (fun k => shelfmarklaw09_RunPacks.j0 k l0 l1 true) true := by
    refine Ev.step (fun _ => shelfmarklaw09_RunPacks.j0.eq_2 ..) ?_
    simp only [if_true]; exact Ev.now _
  obtain ⟨b, hb, h1⟩ := light2_ev l0
  refine Ev.bind hb ?_
  cases b with
  | false => simp only [Bool.false_eq_true, if_false]; exact hend
  | true =>
    simp only [if_true]
    obtain ⟨hl, hs⟩ := h1 rfl
    cases hd : decide ((l1.length : Int) > 4000) with
    | true => exact hend
    | false =>
      have hl1 : l1.length ≤ 4000 := by have := of_decide_eq_false hd; omega
      have hby := bytes_of_wf w1.2
      obtain ⟨r, hu, hru, he, hz⟩ := unpack_both l1 hby (by omega)
      have hP := pack_ev l0 (by omega) hs
      have hRP := rpack_ev l0 (by omega) hs
      have hj1 : ∀ (P : List Int) (e : Int), Ev (fun k => shelfmarklaw09_RunPacks.j1 k l1 P e P e r.1 r.2 r.1 r.2) true := by
        intro P e
        refine Ev.step (fun _ => shelfmarklaw09_RunPacks.j1.eq_2 ..) ?_
        by_cases h0 : r.2 = 0
        · obtain ⟨h2, h3⟩ := hz h0
          have hlu : (encCs r.1).length ≤ 4000 := by have := congrArg List.length h3; unfold packL at this; rw [List.length_append] at this; omega
          have hge := encCs_ge r.1
          have hpk := pack_ev r.1 (by omega) (fun c hc => by have := packed_small r.1 c hc; omega)
          rw [if_pos h2, ← h3] at hpk
          simp only [if_pos h0]
          refine Ev.bind hpk ?_
          simp only [if_true]
          refine Ev.bind (same_ev r.1 (by omega)) ?_
          simp only [if_true, beq_self_eq_true]
          exact Ev.now _
        · simp only [if_neg h0, if_true]
          have := he h0
          refine Ev.bind (same_ev r.1 (by rw [this]; simp)) ?_
          simp only [if_true, beq_self_eq_true]
          exact Ev.now _
      refine Ev.step (fun _ => shelfmarklaw09_RunPacks.j0.eq_2 ..) ?_
      simp only [Bool.false_eq_true, if_false]
      refine Ev.bind hP (Ev.bind hRP (Ev.bind hu (Ev.bind hru ?_)))
      cases hr : rightB l0 with
      | true =>
        simp only [if_true]
        refine Ev.bind (unpack_enc l0 hl hs hr) ?_
        simp only [if_true]
        refine Ev.bind (same_ev l0 (by omega)) ?_
        simp only [if_true]
        exact hj1 _ _
      | false =>
        simp only [Bool.false_eq_true, if_false]
        simp only [if_neg (show ¬ (3 : Int) = 0 by decide)]
        exact hj1 _ _
end Go.Proofs.Ytkkfkccfnfjbiaa.Pure
