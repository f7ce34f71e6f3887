/- DERIVED. outbox.Latest: what it computes, and its code walked. Conditions: those that each lemma names. -/
import Derived.Test.YtdaikljbljcagaaPAllx2
import Derived.Test.YtdaikljbljcagaaPAllx10
import Derived.Test.YtdaikljbljcagaaNd
import Derived.Test.YtdaikljbljcagaaMj
namespace Go.Proofs.Ytdaikljbljcagaa.Nc
open Go Go.RowKit Go.Lib Go.Proofs.Ytdaikljbljcagaa.PAll Go.Proofs.YtdaikljbljcagaaW.PrintWords Go.Proofs.YtdaikljbljcagaaW.PrintLast Go.Proofs.Ytdaikljbljcagaa.Hl Go.Proofs.Ytdaikljbljcagaa.Fv Go.Proofs.Ytdaikljbljcagaa.Na Go.Proofs.Ytdaikljbljcagaa.Nb Go.Proofs.Ytdaikljbljcagaa.Mf
set_option linter.unusedSimpArgs false
set_option linter.unusedVariables false
theorem slice4 {w : World} {base : Nat} {ok : Nat → Prop} {v : Value} (xs : List S29) (h : Kd.R k29 29 w base ok v xs) : ∃ A c, v = .slice A xs.length c ∧ xs.length ≤ c ∧ Aside0 (Kd.R k29 29 w base ok (.slice A xs.length c) xs) := by
  obtain ⟨A, c, rfl⟩ := Kd.R_slice h
  exact ⟨A, c, rfl, (Kd.R_reads' h).2.1, ⟨h⟩⟩
end Go.Proofs.Ytdaikljbljcagaa.Nc
