/- DERIVED. LetterTells: the plain law. Conditions: none. -/
import Derived.Test.YthghacojbhjeaaaPLtx11
import Derived.Test.YthghacojbhjeaaaQLetterTells
import Derived.Test.YthghacojbhjeaaaRs
namespace Go.Proofs.Ythghacojbhjeaaa.Pure
open Go Go.RowKit Go.Proofs.Ythghacojbhjeaaa.PLt Go.Proofs.YthghacojbhjeaaaW.PrintWords Go.Proofs.YthghacojbhjeaaaW.PrintLast Go.Proofs.Ythghacojbhjeaaa.Le Go.Proofs.Ythghacojbhjeaaa.Li Go.Proofs.Ythghacojbhjeaaa.Pb Go.Proofs.Ythghacojbhjeaaa.Pi Go.Proofs.Ythghacojbhjeaaa.Pj Go.Proofs.Ythghacojbhjeaaa.Pl Go.Proofs.Ythghacojbhjeaaa.Rs
set_option linter.unusedSimpArgs false
set_option linter.unusedVariables false
theorem LetterTells (x0 : S27) (w0 : WF27 x0) (x1 : S27) (w1 : WF27 x1) (a2 : Int) (w2 : (Lit.int .i64 a2).wf = true) : ∃ k, shelfmarklaw13_LetterTells.f k x0.f0 x0.f1 x0.f2 x0.f3 x0.f4 x0.f5 x0.f6 x0.f7 x0.f8 x0.f9 x0.f10 x0.f11 x0.f12 x0.f13 x1.f0 x1.f1 x1.f2 x1.f3 x1.f4 x1.f5 x1.f6 x1.f7 x1.f8 x1.f9 x1.f10 x1.f11 x1.f12 x1.f13 a2 = some true := by
  refine Ev.rounds (g := fun k => shelfmarklaw13_LetterTells.f k x0.f0 x0.f1 x0.f2 x0.f3 x0.f4 x0.f5 x0.f6 x0.f7 x0.f8 x0.f9 x0.f10 x0.f11 x0.f12 x0.f13 x1.f0 x1.f1 x1.f2 x1.f3 x1.f4 x1.f5 x1.f6 x1.f7 x1.f8 x1.f9 x1.f10 x1.f11 x1.f12 x1.f13 a2) ?_
  unfold shelfmarklaw13_LetterTells.f
  refine Ev.bind awake_ev ?_
  obtain ⟨v, hv, hl⟩ := light_ev x0
  refine Ev.bind hv ?_
  cases v with
  | false =>
    simp only [Bool.false_eq_true, if_false, if_true]
    refine Ev.step (fun _ => shelfmarklaw13_LetterTells.j0.eq_2 ..) ?_
    exact Ev.now _
  | true =>
    obtain ⟨v, hv, hl1⟩ := light_ev x1
    simp only [if_true]
    refine Ev.bind hv ?_
    refine Ev.step (fun _ => shelfmarklaw13_LetterTells.j0.eq_2 ..) ?_
    cases v with
    | false => exact Ev.now _
    | true =>
      have L := hl rfl
      have L1 := hl1 rfl
      have hp := L.hp
      have hi := L.hi
      simp only [Bool.not_true, Bool.false_eq_true, if_false]
      refine Ev.bind (packs_ev L).1 (Ev.bind (packs_ev L1).1 ?_)
      by_cases h0 : (packX x0).2 = 0
      · simp only [if_pos h0]
        refine Ev.step (fun _ => shelfmarklaw13_LetterTells.j1.eq_2 ..) ?_
        by_cases h1 : (packX x1).2 = 0
        · have ok := okX_of h0
          have ok1 := okX_of h1
          rw [packX_ok ok, packX_ok ok1]
          simp only [bne_self_eq_false, Bool.false_eq_true, if_false]
          obtain ⟨u, hs, he⟩ := Same_ev x0 x1 (by omega) (by omega)
          refine Ev.bind hs ?_
          have e : ((strOfNums (bodyX x0)).toList == (strOfNums (bodyX x1)).toList) = u := by
            rw [Bool.eq_iff_iff, beq_str, he]
            constructor
            · intro h
              have z := unpack_ok ok
              rw [h, unpack_ok ok1] at z
              cases z
              rfl
            · rintro rfl
              rfl
          have sz := size_str (body_bytes x0)
          simp only [e, bne_self_eq_false, Bool.false_eq_true, if_false]
          by_cases c0 : a2 < 0
          · simp only [if_pos c0]
            exact Ev.now _
          · simp only [if_neg c0]
            by_cases c1 : a2 ≥ ((strOfNums (bodyX x0)).size : Int)
            · simp only [if_pos c1]
              exact Ev.now _
            · simp only [if_neg c1, if_pos (show (0 : Int) ≤ a2 by omega), if_pos (show a2 ≤ ((strOfNums (bodyX x0)).size : Int) by omega)]
              have hc := cut_ok ok a2.toNat (by omega)
              obtain ⟨r, hr, hu, _⟩ := unpack_both ((strOfNums (bodyX x0)).extract 0 a2.toNat) (by
                have := ok.len
                rw [ByteArray.size_extract]
                omega)
              rw [hc] at hr
              cases hr
              exact Ev.bind hu (Ev.now _)
        · have e : ((packX x1).2 != 0) = true := bne_iff_ne.2 h1
          simp only [e, if_true]
          exact Ev.now _
      · simp only [if_neg h0]
        refine Ev.step (fun _ => shelfmarklaw13_LetterTells.j1.eq_2 ..) ?_
        exact Ev.now _
end Go.Proofs.Ythghacojbhjeaaa.Pure
