/-
  No cell of these rows narrows 'for every input' (looked for: loops, veiled, ifaces, maps, wideKeys, modest, calm, conditions, laid).
  DERIVED. THE GIVEN ROWS OF THIS SEAT. 4 by the template 'for every input the law returns true; each argument reads behind the call as it read before'; 0 by the template 'total and deterministic' (their statements: YthghacojbhjeaaaTotals.lean).
  GIVEN WITH THE SEED: the statements are not yours to turn. If you find one false, say at which input.
  Laid BY PROGRAM, IN A SANDBOX (cutbox-rows.mjs): the forced cells as the released guide's own fill.sh prints them over the translation d9bbd4b70be165e7… (all of the seat's roots in one cut). By AI agents, Wed Nov 11 2026. No macro, syntax, notation, axiom, sorry.
-/
import Derived.Test.YthghacojbhjeaaaChecked
import GoSem.Claim
import GoSem.ClaimJoined
import GoSem.ClaimMapViews
import Derived.JoinedTies
import Derived.KernelRfl
namespace Go.Proofs.Ythghacojbhjeaaa
/- THE CELL 'sum', in the pinned program and in every row, IS THE sha256 OF THE DUMP (.gsa) THAT YthghacojbhjeaaaProg.lean LOADS. Nothing in Lean hashes anything: it is a label: what it is worth is what the hold of that sum in a sandbox is worth. -/
noncomputable def Try.pinned : Pinned := { name := "ythghacojbhjeaaa", sum := "d9bbd4b70be165e71f8be309d510173fcddddb972e3a45f227ae39ba60fd30a7", checked := Try.checked }
namespace Rows
def none {H : Type} : Left H := { results := [], args := [] }

/-- 'shelfmarklaw13.LetterUnpacks': WHATEVER THE INPUT: true; the input reads as it did. -/
def letterUnpacksSpec : ChangeSpec := { name := "letterUnpacks", fn := fun _ => fun
  | [d] => { results := [.lit (.bool true)], args := [d] }
  | _ => none }
def letterUnpacksRow : OpenClaim := { program := "ythghacojbhjeaaa", sum := "d9bbd4b70be165e71f8be309d510173fcddddb972e3a45f227ae39ba60fd30a7", func := "shelfmark/shelfmarklaw13.LetterUnpacks", spec := "letterUnpacks", unfollowed := true, recurses := true, apart := false }
def LetterUnpacksSaid : Prop := letterUnpacksRow.holds Try.pinned (OpenSpec.ofChange letterUnpacksSpec)

/-- ITS FALSE NEIGHBOUR: 'it returns false'. Refute it at one input. -/
def letterUnpacksWrong : ChangeSpec := { name := "letterUnpacks", fn := fun _ => fun
  | [d] => { results := [.lit (.bool false)], args := [d] }
  | _ => none }
def LetterUnpacksWrongFalsely : Prop := letterUnpacksRow.holds Try.pinned (OpenSpec.ofChange letterUnpacksWrong)

/-- 'shelfmarklaw13.LetterTells': WHATEVER THE INPUT: true; the input reads as it did. -/
def letterTellsSpec : ChangeSpec := { name := "letterTells", fn := fun _ => fun
  | [d1, d2, d3] => { results := [.lit (.bool true)], args := [d1, d2, d3] }
  | _ => none }
def letterTellsRow : OpenClaim := { program := "ythghacojbhjeaaa", sum := "d9bbd4b70be165e71f8be309d510173fcddddb972e3a45f227ae39ba60fd30a7", func := "shelfmark/shelfmarklaw13.LetterTells", spec := "letterTells", unfollowed := true, recurses := true, apart := false }
def LetterTellsSaid : Prop := letterTellsRow.holds Try.pinned (OpenSpec.ofChange letterTellsSpec)

/-- ITS FALSE NEIGHBOUR: 'it returns false'. Refute it at one input. -/
def letterTellsWrong : ChangeSpec := { name := "letterTells", fn := fun _ => fun
  | [d1, d2, d3] => { results := [.lit (.bool false)], args := [d1, d2, d3] }
  | _ => none }
def LetterTellsWrongFalsely : Prop := letterTellsRow.holds Try.pinned (OpenSpec.ofChange letterTellsWrong)

/-- 'shelfmarklaw13.LetterPacks': WHATEVER THE INPUT: true; the input reads as it did. -/
def letterPacksSpec : ChangeSpec := { name := "letterPacks", fn := fun _ => fun
  | [d] => { results := [.lit (.bool true)], args := [d] }
  | _ => none }
def letterPacksRow : OpenClaim := { program := "ythghacojbhjeaaa", sum := "d9bbd4b70be165e71f8be309d510173fcddddb972e3a45f227ae39ba60fd30a7", func := "shelfmark/shelfmarklaw13.LetterPacks", spec := "letterPacks", unfollowed := true, recurses := true, apart := false }
def LetterPacksSaid : Prop := letterPacksRow.holds Try.pinned (OpenSpec.ofChange letterPacksSpec)

/-- ITS FALSE NEIGHBOUR: 'it returns false'. Refute it at one input. -/
def letterPacksWrong : ChangeSpec := { name := "letterPacks", fn := fun _ => fun
  | [d] => { results := [.lit (.bool false)], args := [d] }
  | _ => none }
def LetterPacksWrongFalsely : Prop := letterPacksRow.holds Try.pinned (OpenSpec.ofChange letterPacksWrong)

/-- 'shelfmarklaw13.LetterKeeps': WHATEVER THE INPUT: true; the input reads as it did. -/
def letterKeepsSpec : ChangeSpec := { name := "letterKeeps", fn := fun _ => fun
  | [d1, d2] => { results := [.lit (.bool true)], args := [d1, d2] }
  | _ => none }
def letterKeepsRow : OpenClaim := { program := "ythghacojbhjeaaa", sum := "d9bbd4b70be165e71f8be309d510173fcddddb972e3a45f227ae39ba60fd30a7", func := "shelfmark/shelfmarklaw13.LetterKeeps", spec := "letterKeeps", unfollowed := true, recurses := true, apart := false }
def LetterKeepsSaid : Prop := letterKeepsRow.holds Try.pinned (OpenSpec.ofChange letterKeepsSpec)

/-- ITS FALSE NEIGHBOUR: 'it returns false'. Refute it at one input. -/
def letterKeepsWrong : ChangeSpec := { name := "letterKeeps", fn := fun _ => fun
  | [d1, d2] => { results := [.lit (.bool false)], args := [d1, d2] }
  | _ => none }
def LetterKeepsWrongFalsely : Prop := letterKeepsRow.holds Try.pinned (OpenSpec.ofChange letterKeepsWrong)

/- THE SECOND FORM. 'bulk': how many values and letters a reading holds, each counted each time it is reached (what is shared counts as often as it is met; a slice's spare places count too). A statement '..UptoSaid' is the law's where the arguments, and the package variables that the reading takes, are together of bulk at most 1048576: NARROWER than '..Said'. Prove '..Said' where nothing that the law and all that it calls make is longer than what came in: it says more and counts as full. Else prove '..UptoSaid'. A law counts once. -/
mutual
def uptoBulk {H : Type} : DataW H → Nat
  | .lit (.string bytes) => bytes.length + 1
  | .lit _ => 1
  | .nil => 1
  | .ptr d => uptoBulk d + 1
  | .slice elems spare => uptoBulkAll elems + uptoBulkAll spare + 1
  | .agg parts => uptoBulkAll parts + 1
  | .iface _ d => uptoBulk d + 1
  | .map entries => uptoBulkEntries entries + 1
  | .held _ => 1
def uptoBulkAll {H : Type} : List (DataW H) → Nat
  | [] => 0
  | d :: r => uptoBulk d + uptoBulkAll r
def uptoBulkEntries {H : Type} : List (Lit × DataW H) → Nat
  | [] => 0
  | x :: r => uptoBulkEntry x + uptoBulkEntries r
def uptoBulkEntry {H : Type} : Lit × DataW H → Nat
  | (.string bytes, d) => bytes.length + uptoBulk d + 1
  | (_, d) => uptoBulk d + 1
 end
def uptoSmall : (H : Type) → List (DataW H) → Bool := fun _ ds => decide (uptoBulkAll ds ≤ 1048576)
def OpenSpec.upto (s : _root_.Go.ChangeSpec) : _root_.Go.OpenSpec := { _root_.Go.OpenSpec.ofChange s with cond := some uptoSmall }

/-- 'shelfmarklaw13.LetterUnpacks', WHERE WHAT IT READS IS OF BULK AT MOST 1048576: true; the input reads as it did. -/
def letterUnpacksUptoRow : OpenClaim := { program := "ythghacojbhjeaaa", sum := "d9bbd4b70be165e71f8be309d510173fcddddb972e3a45f227ae39ba60fd30a7", func := "shelfmark/shelfmarklaw13.LetterUnpacks", spec := "letterUnpacks", unfollowed := true, recurses := true, apart := false, narrowed := true }
def LetterUnpacksUptoSaid : Prop := letterUnpacksUptoRow.holds Try.pinned (OpenSpec.upto letterUnpacksSpec)

/-- 'shelfmarklaw13.LetterTells', WHERE WHAT IT READS IS OF BULK AT MOST 1048576: true; the input reads as it did. -/
def letterTellsUptoRow : OpenClaim := { program := "ythghacojbhjeaaa", sum := "d9bbd4b70be165e71f8be309d510173fcddddb972e3a45f227ae39ba60fd30a7", func := "shelfmark/shelfmarklaw13.LetterTells", spec := "letterTells", unfollowed := true, recurses := true, apart := false, narrowed := true }
def LetterTellsUptoSaid : Prop := letterTellsUptoRow.holds Try.pinned (OpenSpec.upto letterTellsSpec)

/-- 'shelfmarklaw13.LetterPacks', WHERE WHAT IT READS IS OF BULK AT MOST 1048576: true; the input reads as it did. -/
def letterPacksUptoRow : OpenClaim := { program := "ythghacojbhjeaaa", sum := "d9bbd4b70be165e71f8be309d510173fcddddb972e3a45f227ae39ba60fd30a7", func := "shelfmark/shelfmarklaw13.LetterPacks", spec := "letterPacks", unfollowed := true, recurses := true, apart := false, narrowed := true }
def LetterPacksUptoSaid : Prop := letterPacksUptoRow.holds Try.pinned (OpenSpec.upto letterPacksSpec)

/-- 'shelfmarklaw13.LetterKeeps', WHERE WHAT IT READS IS OF BULK AT MOST 1048576: true; the input reads as it did. -/
def letterKeepsUptoRow : OpenClaim := { program := "ythghacojbhjeaaa", sum := "d9bbd4b70be165e71f8be309d510173fcddddb972e3a45f227ae39ba60fd30a7", func := "shelfmark/shelfmarklaw13.LetterKeeps", spec := "letterKeeps", unfollowed := true, recurses := true, apart := false, narrowed := true }
def LetterKeepsUptoSaid : Prop := letterKeepsUptoRow.holds Try.pinned (OpenSpec.upto letterKeepsSpec)

end Rows
end Go.Proofs.Ythghacojbhjeaaa
