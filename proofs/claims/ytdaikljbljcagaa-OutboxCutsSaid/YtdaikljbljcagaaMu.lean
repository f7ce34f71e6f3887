/- DERIVED. OutboxKeeps: the code walked. Conditions: those that each lemma names. -/
import Derived.Test.YtdaikljbljcagaaMt
import Derived.Test.YtdaikljbljcagaaNc
import Derived.ArgAppend
namespace Go.Proofs.Ytdaikljbljcagaa.Mu
open Go Go.RowKit Go.Proofs.Ytdaikljbljcagaa.PAll Go.Proofs.YtdaikljbljcagaaW.PrintWords Go.Proofs.YtdaikljbljcagaaW.PrintLast Go.Proofs.Ytdaikljbljcagaa.Hl Go.Proofs.Ytdaikljbljcagaa.Fv Go.Proofs.Ytdaikljbljcagaa.Mc Go.Proofs.Ytdaikljbljcagaa.Me Go.Proofs.Ytdaikljbljcagaa.Mf Go.Proofs.Ytdaikljbljcagaa.Mg Go.Proofs.Ytdaikljbljcagaa.Mi Go.Proofs.Ytdaikljbljcagaa.Mj Go.Proofs.Ytdaikljbljcagaa.Mk Go.Proofs.Ytdaikljbljcagaa.Ml Go.Proofs.Ytdaikljbljcagaa.Mm Go.Proofs.Ytdaikljbljcagaa.Mo Go.Proofs.Ytdaikljbljcagaa.Mr Go.Proofs.Ytdaikljbljcagaa.Ms Go.Proofs.Ytdaikljbljcagaa.Mt Go.Proofs.Ytdaikljbljcagaa.Na Go.Proofs.Ytdaikljbljcagaa.Nc Go.Proofs.Ytdaikljbljcagaa.Pn Go.Proofs.Ytdaikljbljcagaa.Pq Go.Proofs.Ytdaikljbljcagaa.Uj
set_option linter.unusedSimpArgs false
set_option linter.unusedVariables false
/-- What is due of a whole box. -/
theorem due_box (w : World) (base gb : Nat) (S : Nat → Prop) (mo : Int) (l : List S29) (hX : Box 68 w base S gb mo l) (hz : l.length < 1000000000) : Calls Try.prog 17 #[.pointer (some ⟨gb, 0, none⟩), .int .i64 1099511627776] w fun en w' => ∃ Ax cx, en = .returned (.slice Ax l.length l.length) ∧ l.length ≤ cx ∧ Kd.R k29 29 w' w.heap.size (fun _ => True) (.slice Ax l.length cx) l ∧ Below w.heap.size w w' := by
  obtain ⟨_, _, A, c, hB, hR⟩ := hX
  have hd : l.length = dueN 1099511627776 l.length := by
    unfold dueN mn mx
    repeat' split
    all_goals omega
  refine (due_v w gb mo A c l hB (Kd.R_reads' hR).2.2 (Kd.R_reads' hR).2.1 (by omega) 1099511627776 l.length hd).mono ?_
  rintro en w' ⟨v, rfl, hc, hb⟩
  rw [List.take_length] at hc
  obtain ⟨A', c', rfl, h1, h2⟩ := hc
  exact ⟨A', c', rfl, h1, h2, hb⟩
end Go.Proofs.Ytdaikljbljcagaa.Mu
