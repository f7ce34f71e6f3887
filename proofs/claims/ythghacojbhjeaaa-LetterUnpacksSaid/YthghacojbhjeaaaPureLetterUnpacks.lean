/- DERIVED. LetterUnpacks: the plain law. Conditions: none. -/
import Derived.Test.YthghacojbhjeaaaPLtx9
import Derived.Test.YthghacojbhjeaaaQLetterUnpacks
namespace Go.Proofs.Ythghacojbhjeaaa.Pure
open Go Go.RowKit Go.Proofs.Ythghacojbhjeaaa.PLt Go.Proofs.YthghacojbhjeaaaW.PrintWords Go.Proofs.YthghacojbhjeaaaW.PrintLast Go.Proofs.Ythghacojbhjeaaa.PLtEv Go.Proofs.Ythghacojbhjeaaa.Le Go.Proofs.Ythghacojbhjeaaa.Li Go.Proofs.Ythghacojbhjeaaa.Pb Go.Proofs.Ythghacojbhjeaaa.Pi Go.Proofs.Ythghacojbhjeaaa.Pj Go.Proofs.Ythghacojbhjeaaa.Pl
set_option linter.unusedSimpArgs false
set_option linter.unusedVariables false
theorem LetterUnpacks : shelfmarklaw13_LetterUnpacks.Pure := by
  intro s hs
  refine Ev.rounds (g := fun k => shelfmarklaw13_LetterUnpacks.f k s) ?_
  unfold shelfmarklaw13_LetterUnpacks.f
  refine Ev.bind awake_ev ?_
  obtain ⟨r, hr, h1, h2⟩ := unpack_both s hs
  simp only [if_true]
  by_cases hb : (s.size : Int) > 3000
  · simp only [if_pos hb]
    refine Ev.bind h1 ?_
    by_cases hc : (s.size : Int) ≤ 65536
    · simp only [if_pos hc]
      exact Ev.now _
    · simp only [if_neg hc]
      unfold unpackF at hr
      rw [if_pos (by omega)] at hr
      cases hr
      exact Ev.now _
  · simp only [if_neg hb]
    refine Ev.bind h1 (Ev.bind h2 ?_)
    have h9 : r.1.f9.length ≤ 256 ∧ r.1.f10.length ≤ 256 := by
      rcases unpacked_err hr with h | h
      · obtain ⟨x, e⟩ := r
        simp only at h
        subst h
        have ok := (unpacked hr).1
        exact ⟨ok.hp, ok.hi⟩
      · rw [h]
        decide
    obtain ⟨u, hsm, he⟩ := Same_ev r.1 r.1 (by omega) (by omega)
    rw [he.2 rfl] at hsm
    refine Ev.bind hsm ?_
    simp only [if_true]
    refine Ev.step (fun _ => shelfmarklaw13_LetterUnpacks.j0.eq_2 ..) ?_
    simp only [bne_self_eq_false, Bool.false_eq_true, if_false]
    by_cases h0 : (flat r).2.2.2.2.2.2.2.2.2.2.2.2.2.2 = 0
    · simp only [if_pos h0]
      obtain ⟨x, e⟩ := r
      have h0 : e = 0 := h0
      subst h0
      obtain ⟨ok, hbd⟩ := unpacked hr
      refine Ev.bind (pack_ev ok) ?_
      rw [hbd, strOfNums_bytesOf]
      simp only [if_true]
      exact Ev.now _
    · simp only [if_neg h0]
      exact Ev.now _
end Go.Proofs.Ythghacojbhjeaaa.Pure
