/- DERIVED. LetterKeeps: what its code asks, all at once. Conditions: none. -/
import Derived.Test.YthghacojbhjeaaaPKpx11
import Derived.Test.YthghacojbhjeaaaPKpx15
import Derived.Test.YthghacojbhjeaaaPKpx7
import Derived.Test.YthghacojbhjeaaaPKpx8
import Derived.Test.YthghacojbhjeaaaQLetterKeeps
namespace Go.Proofs.Ythghacojbhjeaaa.Pure
open Go Go.RowKit Go.Proofs.Ythghacojbhjeaaa.PKp Go.Proofs.YthghacojbhjeaaaW.PrintWords Go.Proofs.YthghacojbhjeaaaW.PrintLast Go.Proofs.Ythghacojbhjeaaa.Lm Go.Proofs.Ythghacojbhjeaaa.Pi0 Go.Proofs.Ythghacojbhjeaaa.Pj Go.Proofs.Ythghacojbhjeaaa.Pm
set_option linter.unusedSimpArgs false
set_option linter.unusedVariables false
theorem LetterKeeps (a b : S27) : ∃ (k : Nat) (la lb ep ei : Bool), shelfmarklaw13_awake.f k = some true ∧ shelfmarkref13_Light.f k a.f0 a.f1 a.f2 a.f3 a.f4 a.f5 a.f6 a.f7 a.f8 a.f9 a.f10 a.f11 a.f12 a.f13 = some la ∧ shelfmarkref13_Light.f k b.f0 b.f1 b.f2 b.f3 b.f4 b.f5 b.f6 b.f7 b.f8 b.f9 b.f10 b.f11 b.f12 b.f13 = some lb ∧ (la = true → (a.f9.length ≤ 300 ∧ a.f10.length ≤ 300) ∧ ∀ p ∈ a.f9, p.f0.size ≤ 100000) ∧
    (la = true → lb = true → (slices_Equal_api_Pair_api_Pair.f k a.f9 b.f9 = some ep ∧ slices_Equal_api_Intent_api_Intent.f k a.f10 b.f10 = some ei) ∧ shelfmarkref13_Same.f k a.f0 a.f1 a.f2 a.f3 a.f4 a.f5 a.f6 a.f7 a.f8 a.f9 a.f10 a.f11 a.f12 a.f13 b.f0 b.f1 b.f2 b.f3 b.f4 b.f5 b.f6 b.f7 b.f8 b.f9 b.f10 b.f11 b.f12 b.f13 = some (sameF a b ep ei) ∧
      shelfmarkref13_Same.f k a.f0 a.f1 a.f2 a.f3 a.f4 a.f5 a.f6 a.f7 a.f8 a.f9 a.f10 a.f11 a.f12 a.f13 a.f0 a.f1 a.f2 a.f3 a.f4 a.f5 a.f6 a.f7 a.f8 a.f9 a.f10 a.f11 a.f12 a.f13 = some true ∧ (slices_Equal_api_Pair_api_Pair.f k a.f9 a.f9 = some true ∧ slices_Equal_api_Intent_api_Intent.f k a.f10 a.f10 = some true) ∧ sameF a a true true = true) := by
  obtain ⟨K0, e0⟩ := awake_ev
  obtain ⟨la, ⟨K1, e1⟩, hla⟩ := light_ev a
  obtain ⟨lb, ⟨K2, e2⟩, hlb⟩ := light_ev b
  have hsm : la = true → (a.f9.length ≤ 300 ∧ a.f10.length ≤ 300) ∧ ∀ p ∈ a.f9, p.f0.size ≤ 100000 := fun h => by
    have L := hla h
    have := L.sz
    exact ⟨⟨L.hp, L.hi⟩, fun p hp => by have := szP_mem hp; omega⟩
  by_cases h : la = true ∧ lb = true
  · have L := hla h.1
    have hp := L.hp
    have hi := L.hi
    obtain ⟨ep, ⟨K3, e3⟩, h3⟩ := Eq39_ev a.f9 b.f9 (by omega)
    obtain ⟨ei, ⟨K4, e4⟩, h4⟩ := Eq41_ev a.f10 b.f10 (by omega)
    obtain ⟨v, ⟨K5, e5⟩, h5⟩ := Same_ev a b (by omega) (by omega)
    obtain ⟨v2, ⟨K6, e6⟩, h6⟩ := Same_ev a a (by omega) (by omega)
    obtain ⟨p2, ⟨K7, e7⟩, h7⟩ := Eq39_ev a.f9 a.f9 (by omega)
    obtain ⟨i2, ⟨K8, e8⟩, h8⟩ := Eq41_ev a.f10 a.f10 (by omega)
    have hv : v = sameF a b ep ei := by rw [Bool.eq_iff_iff, h5, sameF_iff h3 h4]
    have hv2 : v2 = true := h6.2 rfl
    have hp2 : p2 = true := h7.2 rfl
    have hi2 : i2 = true := h8.2 rfl
    subst hv hv2 hp2 hi2
    exact ⟨K0 + K1 + K2 + K3 + K4 + K5 + K6 + K7 + K8, la, lb, ep, ei, e0 _ (by omega), e1 _ (by omega), e2 _ (by omega), hsm, fun _ _ => ⟨⟨e3 _ (by omega), e4 _ (by omega)⟩, e5 _ (by omega), e6 _ (by omega), ⟨e7 _ (by omega), e8 _ (by omega)⟩, (sameF_iff h7 h8).2 rfl⟩⟩
  · exact ⟨K0 + K1 + K2, la, lb, false, false, e0 _ (by omega), e1 _ (by omega), e2 _ (by omega), hsm, fun h1 h2 => absurd ⟨h1, h2⟩ h⟩
end Go.Proofs.Ythghacojbhjeaaa.Pure
