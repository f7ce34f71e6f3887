/- DERIVED. The text of any map, and what any text is, are as the document says; a map that was packed is unpacked as it was. Conditions: none but those of the statement. -/
import Derived.Test.YtmgjccpolkhhhaaAs
import Derived.Test.YtmgjccpolkhhhaaRs
import Derived.Test.YtmgjccpolkhhhaaPAllx10
import Derived.Test.YtmgjccpolkhhhaaPAllx31
namespace Go.Proofs.Ytmgjccpolkhhhaa.Pure
open Go.RowKit Go.Proofs.Ytmgjccpolkhhhaa.PAll Go.Proofs.YtmgjccpolkhhhaaW.PrintWords Go.Proofs.YtmgjccpolkhhhaaW.PrintLast Go.Proofs.Ytmgjccpolkhhhaa.Ap Go.Proofs.Ytmgjccpolkhhhaa.As Go.Proofs.Ytmgjccpolkhhhaa.Rs
set_option linter.unusedSimpArgs false
set_option linter.unusedVariables false
theorem awake_AtlasPacks : Ev (fun k => shelfmarklaw12_awake.f k) true := Ev.of shelfmarklaw12_awake.mono (k := 40) (by decide +kernel)
theorem max_lt {n : Nat} (h : n ≤ maxLen) : n < 9223372036854775808 := by unfold maxLen at h; omega
theorem unp_short (s : ByteArray) : (unpS s).2.1.length < 9223372036854775808 := by
  unfold unpS
  repeat' split
  all_goals try (simp; done)
  rename_i c1 c2 c3 c4 c5 c6
  have := (chk_zero.1 c6).2.2.le
  dsimp only
  omega
theorem encM_size {ep : Int} {l : List S46} (h : chk ep l = 0) : (strOfNums (encM ep l)).size ≤ 140737488351232 := by
  obtain ⟨h1, h2, hg⟩ := chk_zero.1 h
  have hle := hg.le
  rw [← bytesOf_length, Go.Proofs.Ytmgjccpolkhhhaa.PAllEv.bytesOf_strOfNums (encM_bytes ep l)]
  unfold encM
  simp only [List.length_append]
  have e1 := Go.Proofs.Ytmgjccpolkhhhaa.Pk.encN_le (n := ep.toNat) (by omega)
  have e2 := Go.Proofs.Ytmgjccpolkhhhaa.Pk.encN_le (n := l.length) (by omega)
  have e3 := encPs_len l hg.each
  omega
theorem AtlasPacks (x0 : S24) (w0 : WF24 x0) (a1 : ByteArray) (w1 : a1.size ≤ 140737488351232) : ∃ k, shelfmarklaw12_AtlasPacks.f k x0.f0 x0.f1 a1 = some true := by
  have hl := max_lt w0.2.1
  suffices h : Ev (fun k => shelfmarklaw12_AtlasPacks.f k x0.f0 x0.f1 a1) true from h.rounds
  unfold shelfmarklaw12_AtlasPacks.f
  refine Ev.bind awake_AtlasPacks ?_
  simp only [if_true]
  obtain ⟨b, hb, _⟩ := Light_ev x0.f0 x0.f1 hl
  refine Ev.bind hb ?_
  have hend : Ev (fun k => shelfmarklaw12_AtlasPacks.j0 k a1 true x0.f0 x0.f1) true := by
    refine Ev.step (fun _ => shelfmarklaw12_AtlasPacks.j0.eq_2 ..) ?_
    simp only [if_true]; exact Ev.now _
  cases b with
  | false => simp only [Bool.false_eq_true, if_false]; exact hend
  | true =>
    simp only [if_true]
    cases hs : decide ((a1.size : Int) > 3000) with
    | true => exact hend
    | false =>
      refine Ev.step (fun _ => shelfmarklaw12_AtlasPacks.j0.eq_2 ..) ?_
      simp only [Bool.false_eq_true, if_false]
      refine Ev.bind (Pack_ev x0.f0 x0.f1 hl) ?_
      refine Ev.bind (RPack_ev x0.f0 x0.f1 hl) ?_
      refine Ev.bind (Unpack_ev a1 w1) ?_
      refine Ev.bind (RUnpack_ev a1 w1) ?_
      have hj : Ev (fun k => shelfmarklaw12_AtlasPacks.j1 k a1 (packS x0.f0 x0.f1).1 (packS x0.f0 x0.f1).2 (packS x0.f0 x0.f1).1 (packS x0.f0 x0.f1).2 (unpS a1).2.2 (unpS a1).2.2 (unpS a1).1 (unpS a1).2.1 (unpS a1).1 (unpS a1).2.1) true := by
        refine Ev.step (fun _ => shelfmarklaw12_AtlasPacks.j1.eq_2 ..) ?_
        have hend2 : Ev (fun k => (shelfmarkref12_Same.f k (unpS a1).1 (unpS a1).2.1 (unpS a1).1 (unpS a1).2.1).bind fun t => some t) true := Ev.bind (Same_refl _ _ (unp_short a1)) (Ev.now _)
        by_cases hz : (unpS a1).2.2 = 0
        · simp only [if_pos hz]
          obtain ⟨p1, p2⟩ := pack_unp (eta3 _ hz)
          refine Ev.bind (Pack_ev _ _ (unp_short a1)) ?_
          have hp : packS (unpS a1).1 (unpS a1).2.1 = (a1, 0) := by unfold packS; rw [if_pos p1, p2]
          rw [hp]
          simp only [if_true]
          exact hend2
        · simp only [if_neg hz, if_true]
          exact hend2
      by_cases hc : chk x0.f0 x0.f1 = 0
      · have hp : packS x0.f0 x0.f1 = (strOfNums (encM x0.f0 x0.f1), 0) := by unfold packS; rw [if_pos hc]
        rw [hp] at hj ⊢
        simp only [if_true]
        refine Ev.bind (Unpack_ev _ (encM_size hc)) ?_
        rw [unp_pack hc]
        simp only [if_true]
        refine Ev.bind (Same_refl _ _ hl) ?_
        simp only [if_true]
        exact hj
      · have hp : packS x0.f0 x0.f1 = ((⟨#[]⟩ : ByteArray), chk x0.f0 x0.f1) := by unfold packS; rw [if_neg hc]
        rw [hp] at hj ⊢
        simp only [if_neg hc]
        exact hj
end Go.Proofs.Ytmgjccpolkhhhaa.Pure
