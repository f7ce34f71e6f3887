/- DERIVED. LetterPacks: the plain law. Conditions: none. -/
import Derived.Test.YthghacojbhjeaaaPLtx15
import Derived.Test.YthghacojbhjeaaaQLetterPacks
import Derived.Test.YthghacojbhjeaaaRs
namespace Go.Proofs.Ythghacojbhjeaaa.Pure
open Go Go.RowKit Go.Proofs.Ythghacojbhjeaaa.PLt Go.Proofs.YthghacojbhjeaaaW.PrintWords Go.Proofs.YthghacojbhjeaaaW.PrintLast Go.Proofs.Ythghacojbhjeaaa.Le Go.Proofs.Ythghacojbhjeaaa.Li Go.Proofs.Ythghacojbhjeaaa.Pb Go.Proofs.Ythghacojbhjeaaa.Pi Go.Proofs.Ythghacojbhjeaaa.Pj Go.Proofs.Ythghacojbhjeaaa.Pl Go.Proofs.Ythghacojbhjeaaa.Rs
set_option linter.unusedSimpArgs false
set_option linter.unusedVariables false
theorem LetterPacks (x0 : S27) (w0 : WF27 x0) : ∃ k, shelfmarklaw13_LetterPacks.f k x0.f0 x0.f1 x0.f2 x0.f3 x0.f4 x0.f5 x0.f6 x0.f7 x0.f8 x0.f9 x0.f10 x0.f11 x0.f12 x0.f13 = some true := by
  refine Ev.rounds (g := fun k => shelfmarklaw13_LetterPacks.f k x0.f0 x0.f1 x0.f2 x0.f3 x0.f4 x0.f5 x0.f6 x0.f7 x0.f8 x0.f9 x0.f10 x0.f11 x0.f12 x0.f13) ?_
  unfold shelfmarklaw13_LetterPacks.f
  refine Ev.bind awake_ev ?_
  obtain ⟨v, hv, hl⟩ := light_ev x0
  refine Ev.bind hv ?_
  cases v with
  | false => exact Ev.now _
  | true =>
    have L := hl rfl
    obtain ⟨p1, p2⟩ := packs_ev L
    have hp := L.hp
    have hi := L.hi
    simp only [if_true]
    refine Ev.bind p1 (Ev.bind p2 ?_)
    simp only [if_true]
    refine Ev.bind (g := fun k => letter_Check.f k x0.f0 x0.f1 x0.f2 x0.f3 x0.f4 x0.f5 x0.f6 x0.f7 x0.f8 x0.f9 x0.f10 x0.f11 x0.f12 x0.f13) (a := (packX x0).2) ?_ ?_
    · unfold letter_Check.f
      exact Ev.bind p1 (Ev.now _)
    · refine Ev.step (fun _ => shelfmarklaw13_LetterPacks.j0.eq_2 ..) ?_
      simp only [bne_self_eq_false, Bool.false_eq_true, if_false]
      by_cases h0 : (packX x0).2 = 0
      · have ok := okX_of h0
        obtain ⟨r, hr, hu, _⟩ := unpack_both (strOfNums (bodyX x0)) (by have := ok.len; rw [size_str (body_bytes x0)]; omega)
        rw [unpack_ok ok] at hr
        cases hr
        obtain ⟨u, hs, he⟩ := Same_ev x0 x0 (by omega) (by omega)
        rw [he.2 rfl] at hs
        rw [packX_ok ok]
        simp only [if_true]
        refine Ev.bind hu ?_
        refine Ev.bind (f := fun _ t => some t) hs (Ev.now _)
      · simp only [if_neg h0]
        exact Ev.now _
end Go.Proofs.Ythghacojbhjeaaa.Pure
