/- DERIVED. What is handed in stays; what is answered is new memory. Conditions: those of the statement. -/
import Derived.Test.YtieifhjjjlmkbaaDoorPAllx16
import Derived.Test.YtieifhjjjlmkbaaDoorVl
import Derived.Test.YtieifhjjjlmkbaaDoorRs
namespace Go.Proofs.YtieifhjjjlmkbaaDoor.Pure
open Go.RowKit Go.Proofs.YtieifhjjjlmkbaaDoor.PAll Go.Proofs.YtieifhjjjlmkbaaDoorW.PrintWords Go.Proofs.YtieifhjjjlmkbaaDoorW.PrintLast Go.Proofs.YtieifhjjjlmkbaaDoor.Hl Go.Proofs.YtieifhjjjlmkbaaDoor.Tl Go.Proofs.YtieifhjjjlmkbaaDoor.Vl Go.Proofs.YtieifhjjjlmkbaaDoor.Rs
set_option linter.unusedSimpArgs false
set_option linter.unusedVariables false
theorem awake_RecordKeeps : Ev (fun k => shelfmarklaw04_awake.f k) true := Ev.of shelfmarklaw04_awake.mono (k := 30) (by decide +kernel)
theorem keeps_l1 (r x11 : List S41) (hs : Ev (fun k => shelfmarkref03_Same.f k x11 r) true) : ∀ (m i : Nat) (b : List S41), i + m = b.length → b.length ≤ 1000 → Ev (fun k => shelfmarklaw04_RecordKeeps.l1 k r x11 b (i : Int)) true
  | 0, i, b, h, hb => by
    refine Ev.step (fun _ => shelfmarklaw04_RecordKeeps.l1.eq_2 ..) ?_
    simp only [if_neg (show ¬ (i : Int) < (b.length : Int) by omega)]
    exact Ev.bind hs (Ev.now _)
  | m + 1, i, b, h, hb => by
    refine Ev.step (fun _ => shelfmarklaw04_RecordKeeps.l1.eq_2 ..) ?_
    simp only [if_pos (show (i : Int) < (b.length : Int) by omega), if_pos (show (0 : Int) ≤ (i : Int) by omega)]
    rw [w64 (by omega) (by omega)]
    exact keeps_l1 r x11 hs m (i + 1) _ (by rw [List.length_set]; omega) (by rw [List.length_set]; omega)
theorem keeps_l0 (a : Int) (x : List Int) (r p : List S41) (q : Bool) (hs : p.length ≤ 1000) (hq : q = decide ((p.length : Int) > 0)) (hj : Ev (fun k => shelfmarklaw04_RecordKeeps.j2 k r false a x) true) : ∀ (m i : Nat) (b : List S41), i + m = b.length → b.length ≤ 1002 → Ev (fun k => shelfmarklaw04_RecordKeeps.l0 k r b p q p (i : Int) a x) true
  | 0, i, b, h, hb => by
    refine Ev.step (fun _ => shelfmarklaw04_RecordKeeps.l0.eq_2 ..) ?_
    subst hq
    simp only [if_neg (show ¬ (i : Int) < (b.length : Int) by omega), bne_self_eq_false, Bool.false_eq_true, if_false]
    exact Ev.bind (same_ev p (by omega)) hj
  | m + 1, i, b, h, hb => by
    refine Ev.step (fun _ => shelfmarklaw04_RecordKeeps.l0.eq_2 ..) ?_
    simp only [if_pos (show (i : Int) < (b.length : Int) by omega), if_pos (show (0 : Int) ≤ (i : Int) by omega)]
    rw [w64 (by omega) (by omega)]
    exact keeps_l0 a x r p q hs hq hj m (i + 1) _ (by rw [List.length_set]; omega) (by rw [List.length_set]; omega)
theorem RecordKeeps (x0 : S24) (w0 : WF24 x0) (l1 : List (S41)) (w1 : l1.length ≤ maxLen ∧ ∀ x ∈ l1, WF41 x) (y1 : l1.length * 32 ≤ 140737488351232) : ∃ k, shelfmarklaw04_RecordKeeps.f k x0.f0 x0.f1 l1 = some true := by
  refine Ev.rounds ?_
  unfold shelfmarklaw04_RecordKeeps.f
  refine Ev.bind awake_RecordKeeps ?_
  simp only [if_true]
  have hend : Ev (fun k => shelfmarklaw04_RecordKeeps.j0 k l1 true x0.f0 x0.f1) true := by
    refine Ev.step (fun _ => shelfmarklaw04_RecordKeeps.j0.eq_2 ..) ?_
    simp only [if_true]
    exact Ev.now _
  refine Ev.bind (light2_ev l1 []) ?_
  cases h : (lightB 1000 l1 0 0 && lightB 1000 [] 0 0) with
  | false =>
    simp only [Bool.false_eq_true, if_false]
    exact hend
  | true =>
    simp only [if_true]
    by_cases h1 : (x0.f1.length : Int) > 100
    · simp only [decide_eq_true h1]
      exact hend
    · simp only [decide_eq_false h1]
      rw [Bool.and_eq_true] at h
      have hlen := light_length (by omega) h.1
      refine Ev.step (fun _ => shelfmarklaw04_RecordKeeps.j0.eq_2 ..) ?_
      simp only [Bool.false_eq_true, if_false, Option.bind_some, List.length_nil, List.nil_append, Nat.zero_add, if_pos (show l1.length < 4398046511104 by omega)]
      refine Ev.bind (show_ev _ _ _ (by omega)) ?_
      refine Ev.bind (refShow_ev _ _ _) ?_
      obtain ⟨k1, k2⟩ := showR_len x0.f0 x0.f1 l1
      refine keeps_l0 x0.f0 x0.f1 l1 _ _ (by omega) k2 ?_ l1.length 0 l1 (by omega) (by omega)
      refine Ev.step (fun _ => shelfmarklaw04_RecordKeeps.j2.eq_2 ..) ?_
      simp only [Bool.false_eq_true, if_false, Option.bind_some, List.length_nil, List.nil_append, Nat.zero_add, if_pos (show l1.length < 4398046511104 by omega)]
      refine Ev.bind (show_ev _ _ _ (by omega)) ?_
      exact keeps_l1 l1 l1 (same_ev l1 (by omega)) _ 0 _ (by rw [Nat.zero_add]) (by omega)
end Go.Proofs.YtieifhjjjlmkbaaDoor.Pure
