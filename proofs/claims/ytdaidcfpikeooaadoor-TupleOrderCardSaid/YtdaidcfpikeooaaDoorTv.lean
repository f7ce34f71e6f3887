/- DERIVED. What is read, put anew, is what was read. Conditions: those that each lemma names. -/
import Derived.Test.YtdaidcfpikeooaaDoorTu
namespace Go.Proofs.YtdaidcfpikeooaaDoor.Tv
open Go.RowKit Go.Proofs.YtdaidcfpikeooaaDoor.PAll Go.Proofs.YtdaidcfpikeooaaDoorW.PrintWords Go.Proofs.YtdaidcfpikeooaaDoorW.PrintLast Go.Proofs.YtdaidcfpikeooaaDoor.Hl Go.Proofs.YtdaidcfpikeooaaDoor.Tl Go.Proofs.YtdaidcfpikeooaaDoor.Tb Go.Proofs.YtdaidcfpikeooaaDoor.Tk Go.Proofs.YtdaidcfpikeooaaDoor.Tr Go.Proofs.YtdaidcfpikeooaaDoor.Tu
set_option linter.unusedSimpArgs false
set_option linter.unusedVariables false
theorem oneR_some (s : ByteArray) (h : stops s = false) (he : (oneR s).2.2.2.2 = 0) : oneS s s.data.toList = some ((oneR s).1, (oneR s).2.1, (oneR s).2.2.1, (oneR s).2.2.2.1, 0) := by
  cases hd : s.data.toList with
  | nil => unfold stops at h; rw [hd] at h; cases h
  | cons c t =>
    rw [← he]
    unfold oneR
    rw [hd, oneS]
    rfl
theorem cut_got : ∀ (m : Nat) (s : ByteArray) (l : List S37), ((cutF m s l).2.2 = 0 → ∃ w, (cutF m s l).1 = l ++ w ∧ w.all good = true ∧ w.length ≤ m ∧ s.data.toList = rowB w ++ (cutF m s l).2.1.data.toList) ∧ ((cutF m s l).2.2 ≠ 0 → (cutF m s l).1 = [] ∧ (cutF m s l).2.1 = ⟨#[]⟩) := by
  intro m
  induction m with
  | zero =>
    intro s l
    unfold cutF
    by_cases h : stops s = true
    · rw [if_pos h]
      exact ⟨fun _ => ⟨[], by simp, rfl, by simp, by simp [rowB]⟩, fun e => absurd rfl e⟩
    · rw [if_neg h]
      exact ⟨fun e => absurd (show (4 : Int) = 0 from e) (by decide), fun _ => ⟨rfl, rfl⟩⟩
  | succ m ih =>
    intro s l
    unfold cutF
    by_cases h : stops s = true
    · rw [if_pos h]
      exact ⟨fun _ => ⟨[], by simp, rfl, by simp, by simp [rowB]⟩, fun e => absurd rfl e⟩
    · rw [if_neg h]
      by_cases he : (oneR s).2.2.2.2 = 0
      · rw [if_pos he]
        obtain ⟨i1, i2⟩ := ih (s.extract (oneR s).2.2.2.1.toNat s.size) (l ++ [⟨(oneR s).1, (oneR s).2.1, (oneR s).2.2.1⟩])
        refine ⟨fun e => ?_, i2⟩
        obtain ⟨w, w1, w2, w3, w4⟩ := i1 e
        obtain ⟨g1, g2, R, g3⟩ := one_got s _ _ _ _ (oneR_some s (by simpa using h) he)
        refine ⟨⟨(oneR s).1, (oneR s).2.1, (oneR s).2.2.1⟩ :: w, by rw [w1, List.append_assoc]; rfl, by rw [List.all_cons, g1, w2]; rfl, by simpa using w3, ?_⟩
        have h1 : (s.extract (oneR s).2.2.2.1.toNat s.size).data.toList = s.data.toList.drop (oneR s).2.2.2.1.toNat := Lib.extract_to_end s _
        rw [h1, g2, Int.toNat_natCast, g3, List.drop_left] at w4
        rw [g3, w4]
        simp only [rowB, List.flatMap_cons, List.append_assoc, g2, Int.toNat_natCast]
      · rw [if_neg he]
        exact ⟨fun e => absurd e he, fun _ => ⟨rfl, rfl⟩⟩
end Go.Proofs.YtdaidcfpikeooaaDoor.Tv
