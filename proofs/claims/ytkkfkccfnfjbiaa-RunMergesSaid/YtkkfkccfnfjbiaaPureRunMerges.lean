/- DERIVED. Any lists are merged, or refused, as the document says. Conditions: none but those of the statement. -/
import Derived.Test.YtkkfkccfnfjbiaaRe
import Derived.Test.YtkkfkccfnfjbiaaRs
import Derived.Test.YtkkfkccfnfjbiaaPAllx9
import Derived.Test.YtkkfkccfnfjbiaaPAllx13
namespace Go.Proofs.Ytkkfkccfnfjbiaa.Pure
open Go.RowKit Go.Proofs.Ytkkfkccfnfjbiaa.PAll Go.Proofs.YtkkfkccfnfjbiaaW.PrintWords Go.Proofs.YtkkfkccfnfjbiaaW.PrintLast Go.Proofs.Ytkkfkccfnfjbiaa.Ra Go.Proofs.Ytkkfkccfnfjbiaa.Rb Go.Proofs.Ytkkfkccfnfjbiaa.Rc Go.Proofs.Ytkkfkccfnfjbiaa.Rd Go.Proofs.Ytkkfkccfnfjbiaa.Re Go.Proofs.Ytkkfkccfnfjbiaa.Rs
set_option linter.unusedSimpArgs false
set_option linter.unusedVariables false
theorem awake_RunMerges : Ev (fun k => shelfmarklaw09_awake.f k) true := Ev.of shelfmarklaw09_awake.mono (k := 40) (by decide +kernel)
theorem same_end (ls : List (List S37)) (tidy : Bool) (l0 : List (List S37)) (x6 : Int) (hx : ¬ x6 < (l0.length : Int)) (hn : ls.length ≤ 10) (hl : ∀ l ∈ ls, l.length ≤ 60) : Ev (fun k => shelfmarklaw09_RunMerges.l0 k l0 tidy ls x6) true := by
  have ht := tot_le ls 60 hl
  have h1 := run_merge_ev ls (by omega) (by omega)
  have h2 := ref_merge_ev ls (by omega) (by omega)
  obtain ⟨r, hr⟩ : ∃ r, (if ls.all rightB = true then (refFold ls [], (0 : Int)) else ([], 3)) = r := ⟨_, rfl⟩
  rw [hr] at h1 h2
  have hrl : r.1.length < 9223372036854775807 := by
    rw [← hr]
    split
    · have h5 := refFold_len ls []
      simp only [List.length_nil] at h5
      show (refFold ls []).length < _
      omega
    · show (0 : Nat) < _; omega
  refine Ev.step (fun _ => shelfmarklaw09_RunMerges.l0.eq_2 ..) (Ev.congr (fun k => if_neg hx) ?_)
  refine Ev.bind h1 (Ev.bind h2 (Ev.bind (same_ev r.1 hrl) ?_))
  simp only [if_true, beq_self_eq_true]
  exact Ev.now _
theorem loop (l0 : List (List S37)) (tidy : Bool) (hn : l0.length ≤ 10) (hl : ∀ l ∈ l0, l.length ≤ 60) : ∀ (m i : Nat) (ls : List (List S37)), i + m = l0.length → ls.length = i → (∀ l ∈ ls, l.length ≤ 60) → Ev (fun k => shelfmarklaw09_RunMerges.l0 k l0 tidy ls (i : Int)) true
  | 0, i, ls, h, h1, h2 => same_end ls tidy l0 _ (by omega) (by omega) h2
  | m + 1, i, ls, h, h1, h2 => by
    have hi : i < l0.length := by omega
    have hg := rdL_get l0 i hi
    have h60 := hl l0[i] (List.getElem_mem hi)
    cases tidy with
    | true =>
      have ih := loop l0 true hn hl m (i + 1) (ls ++ [putsL [] l0[i]]) (by omega) (by simp [h1]) (fun l hm => by
        rcases List.mem_append.1 hm with hm | hm
        · exact h2 l hm
        · rw [List.mem_singleton.1 hm]
          have := putAll_len l0[i] []
          simp only [List.length_nil] at this
          omega)
      refine Ev.step (fun _ => shelfmarklaw09_RunMerges.l0.eq_2 ..) (Ev.congr (fun k => ?_) (Ev.bind (f := fun k t => shelfmarklaw09_RunMerges.l0 k l0 true (ls ++ [t]) ((i + 1 : Nat) : Int)) (make_ev l0[i] (by omega)) ih))
      rw [if_pos (by omega), if_pos rfl, if_pos (by omega), hg, up1 (by omega)]
      exact congrArg _ (funext fun t => if_pos (show ls.length < 5864062014805 by omega))
    | false =>
      have ih := loop l0 false hn hl m (i + 1) (ls ++ [l0[i]]) (by omega) (by simp [h1]) (fun l hm => by
        rcases List.mem_append.1 hm with hm | hm
        · exact h2 l hm
        · rw [List.mem_singleton.1 hm]; exact h60)
      refine Ev.step (fun _ => shelfmarklaw09_RunMerges.l0.eq_2 ..) (Ev.congr (fun k => ?_) ih)
      rw [if_pos (by omega), if_neg (by decide), if_pos (by omega), hg, up1 (by omega), if_pos (show ls.length < 5864062014805 by omega)]
theorem RunMerges (l0 : List (List (S37))) (w0 : l0.length ≤ maxLen ∧ ∀ x ∈ l0, x.length ≤ maxLen ∧ ∀ x1 ∈ x, WF37 x1) (y0 : l0.length * 24 ≤ 140737488351232) (a1 : Bool) : ∃ k, shelfmarklaw09_RunMerges.f k l0 a1 = some true := by
  suffices h : Ev (fun k => shelfmarklaw09_RunMerges.f k l0 a1) true from h.rounds
  unfold shelfmarklaw09_RunMerges.f
  refine Ev.bind awake_RunMerges ?_
  simp only [if_true]
  obtain ⟨b, hb, h1⟩ := all_ev l0
  refine Ev.bind hb ?_
  cases b with
  | false => simp only [Bool.false_eq_true, if_false]; exact Ev.now _
  | true =>
    simp only [if_true]
    obtain ⟨h2, h3⟩ := h1 rfl
    exact loop l0 a1 h2 h3 l0.length 0 [] (by omega) rfl (fun l hl => by cases hl)
end Go.Proofs.Ytkkfkccfnfjbiaa.Pure
