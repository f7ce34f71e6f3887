/- DERIVED. OutboxPlays: the code walked. Conditions: those that each lemma names. -/
import Derived.Test.YtdaikljbljcagaaUj
import Derived.Test.YtdaikljbljcagaaPAllx0
import Derived.Test.YtdaikljbljcagaaPAllx15
namespace Go.Proofs.Ytdaikljbljcagaa.Mt
open Go Go.RowKit Go.Proofs.Ytdaikljbljcagaa.PAll Go.Proofs.YtdaikljbljcagaaW.PrintWords Go.Proofs.YtdaikljbljcagaaW.PrintLast Go.Proofs.Ytdaikljbljcagaa.Hl Go.Proofs.Ytdaikljbljcagaa.Fv Go.Proofs.Ytdaikljbljcagaa.Mc Go.Proofs.Ytdaikljbljcagaa.Me Go.Proofs.Ytdaikljbljcagaa.Mi Go.Proofs.Ytdaikljbljcagaa.Mj Go.Proofs.Ytdaikljbljcagaa.Mk Go.Proofs.Ytdaikljbljcagaa.Mm Go.Proofs.Ytdaikljbljcagaa.Mr Go.Proofs.Ytdaikljbljcagaa.Ms Go.Proofs.Ytdaikljbljcagaa.Pn Go.Proofs.Ytdaikljbljcagaa.Pq Go.Proofs.Ytdaikljbljcagaa.Uj
set_option linter.unusedSimpArgs false
set_option linter.unusedVariables false
theorem _root_.Go.Proofs.Ytdaikljbljcagaa.Mi.Box.lower {t : TypeId} {w : World} {base base' : Nat} {S : Nat → Prop} {gb : Nat} {mo : Int} {l : List S29} (h : Box t w base S gb mo l) (hb : base' ≤ base) : Box t w base' S gb mo l := by
  obtain ⟨h1, h2, A, c, h3, h4⟩ := h
  exact ⟨h1, fun k hk => ⟨Nat.le_trans hb (h2 k hk).1, (h2 k hk).2⟩, A, c, h3, Kd.R_lower h4 hb⟩
theorem same_pair (w : World) (base : Nat) (S : Nat → Prop) (gb gr : Nat) (mo : Int) (l : List S29) (h : Pair w base S gb gr mo l) (hz : l.length < 1000000000) (k : Nat) (hs : shelfmarkref13_SameIntents.f k l l = some true) :
    Calls Try.prog 18 #[.pointer (some ⟨gb, 0, none⟩), .pointer (some ⟨gr, 0, none⟩)] w fun en w' => en = .returned (.bool true) ∧ Below w.heap.size w w' := by
  obtain ⟨S1, S2, ⟨_, _, A, c, hB, hR⟩, ⟨_, _, A2, c2, hB2, hR2⟩, _, _⟩ := h
  exact same_v w gb gr mo l A A2 c c2 hB (Kd.R_reads' hR).2.2 (Kd.R_reads' hR).2.1 hB2 (Kd.R_reads' hR2).2.2 (Kd.R_reads' hR2).2.1 hz k hs
/-- What waits after some acts. -/
def runL (mo : Int) (l : List S45) (o : List S29) : List S29 := l.foldl (actL mo) o
/-- All that is asked of the acts of a list. -/
structure ActsOk (k : Nat) (mo : Int) (l : List S45) : Prop where
  len : l.length < 60
  ok : ∀ j (h : j < l.length), ActOk k mo (runL mo (l.take j) []) l[j]
  size : ∀ j (h : j < l.length), (runL mo (l.take j) []).length + l[j].f1.length < 1000000
  wf : ∀ j (h : j < l.length), WfI (runL mo (l.take j) [])
  wf1 : ∀ j (h : j < l.length), WfI l[j].f1
end Go.Proofs.Ytdaikljbljcagaa.Mt
