/-
  No cell of these rows narrows 'for every input' (looked for: loops, veiled, ifaces, maps, wideKeys, modest, calm, conditions, laid).
  DERIVED. THE GIVEN ROWS OF THIS SEAT. 6 by the template 'for every input the law returns true; each argument reads behind the call as it read before'; 0 by the template 'total and deterministic' (their statements: YtmgjccpolkhhhaaTotals.lean).
  GIVEN WITH THE SEED: the statements are not yours to turn. If you find one false, say at which input.
  Laid BY PROGRAM, IN A SANDBOX (cutbox-rows.mjs): the forced cells as the released guide's own fill.sh prints them over the translation de65435df48da0cc… (all of the seat's roots in one cut). By AI agents, Wed Nov 11 2026. No macro, syntax, notation, axiom, sorry.
-/
import Derived.Test.YtmgjccpolkhhhaaChecked
import GoSem.Claim
import GoSem.ClaimJoined
import GoSem.ClaimMapViews
import Derived.JoinedTies
import Derived.KernelRfl
namespace Go.Proofs.Ytmgjccpolkhhhaa
/- THE CELL 'sum', in the pinned program and in every row, IS THE sha256 OF THE DUMP (.gsa) THAT YtmgjccpolkhhhaaProg.lean LOADS. Nothing in Lean hashes anything: it is a label: what it is worth is what the hold of that sum in a sandbox is worth. -/
noncomputable def Try.pinned : Pinned := { name := "ytmgjccpolkhhhaa", sum := "de65435df48da0cc061dd54bf147a2b14bba7acd8c072003494fd8bbe0fd2e7d", checked := Try.checked }
namespace Rows
def none {H : Type} : Left H := { results := [], args := [] }

/-- 'shelfmarklaw12.AtlasChecks': WHATEVER THE INPUT: true; the input reads as it did. -/
def atlasChecksSpec : ChangeSpec := { name := "atlasChecks", fn := fun _ => fun
  | [d1, d2, d3] => { results := [.lit (.bool true)], args := [d1, d2, d3] }
  | _ => none }
def atlasChecksRow : OpenClaim := { program := "ytmgjccpolkhhhaa", sum := "de65435df48da0cc061dd54bf147a2b14bba7acd8c072003494fd8bbe0fd2e7d", func := "shelfmark/shelfmarklaw12.AtlasChecks", spec := "atlasChecks", inPlace := ["slices.overlaps[shelfmark/api.Part]"], unfollowed := true, recurses := true, apart := false }
def AtlasChecksSaid : Prop := atlasChecksRow.holds Try.pinned (OpenSpec.ofChange atlasChecksSpec)

/-- ITS FALSE NEIGHBOUR: 'it returns false'. Refute it at one input. -/
def atlasChecksWrong : ChangeSpec := { name := "atlasChecks", fn := fun _ => fun
  | [d1, d2, d3] => { results := [.lit (.bool false)], args := [d1, d2, d3] }
  | _ => none }
def AtlasChecksWrongFalsely : Prop := atlasChecksRow.holds Try.pinned (OpenSpec.ofChange atlasChecksWrong)

/-- 'shelfmarklaw12.AtlasPlans': WHATEVER THE INPUT: true; the input reads as it did. -/
def atlasPlansSpec : ChangeSpec := { name := "atlasPlans", fn := fun _ => fun
  | [d1, d2] => { results := [.lit (.bool true)], args := [d1, d2] }
  | _ => none }
def atlasPlansRow : OpenClaim := { program := "ytmgjccpolkhhhaa", sum := "de65435df48da0cc061dd54bf147a2b14bba7acd8c072003494fd8bbe0fd2e7d", func := "shelfmark/shelfmarklaw12.AtlasPlans", spec := "atlasPlans", inPlace := ["slices.overlaps[shelfmark/api.Part]"], unfollowed := true, recurses := true, apart := false }
def AtlasPlansSaid : Prop := atlasPlansRow.holds Try.pinned (OpenSpec.ofChange atlasPlansSpec)

/-- ITS FALSE NEIGHBOUR: 'it returns false'. Refute it at one input. -/
def atlasPlansWrong : ChangeSpec := { name := "atlasPlans", fn := fun _ => fun
  | [d1, d2] => { results := [.lit (.bool false)], args := [d1, d2] }
  | _ => none }
def AtlasPlansWrongFalsely : Prop := atlasPlansRow.holds Try.pinned (OpenSpec.ofChange atlasPlansWrong)

/-- 'shelfmarklaw12.AtlasBack': WHATEVER THE INPUT: true; the input reads as it did. -/
def atlasBackSpec : ChangeSpec := { name := "atlasBack", fn := fun _ => fun
  | [d1, d2, d3] => { results := [.lit (.bool true)], args := [d1, d2, d3] }
  | _ => none }
def atlasBackRow : OpenClaim := { program := "ytmgjccpolkhhhaa", sum := "de65435df48da0cc061dd54bf147a2b14bba7acd8c072003494fd8bbe0fd2e7d", func := "shelfmark/shelfmarklaw12.AtlasBack", spec := "atlasBack", inPlace := ["slices.overlaps[shelfmark/api.Part]"], unfollowed := true, recurses := true, apart := false }
def AtlasBackSaid : Prop := atlasBackRow.holds Try.pinned (OpenSpec.ofChange atlasBackSpec)

/-- ITS FALSE NEIGHBOUR: 'it returns false'. Refute it at one input. -/
def atlasBackWrong : ChangeSpec := { name := "atlasBack", fn := fun _ => fun
  | [d1, d2, d3] => { results := [.lit (.bool false)], args := [d1, d2, d3] }
  | _ => none }
def AtlasBackWrongFalsely : Prop := atlasBackRow.holds Try.pinned (OpenSpec.ofChange atlasBackWrong)

/-- 'shelfmarklaw12.AtlasKeeps': WHATEVER THE INPUT: true; the input reads as it did. -/
def atlasKeepsSpec : ChangeSpec := { name := "atlasKeeps", fn := fun _ => fun
  | [d1, d2] => { results := [.lit (.bool true)], args := [d1, d2] }
  | _ => none }
def atlasKeepsRow : OpenClaim := { program := "ytmgjccpolkhhhaa", sum := "de65435df48da0cc061dd54bf147a2b14bba7acd8c072003494fd8bbe0fd2e7d", func := "shelfmark/shelfmarklaw12.AtlasKeeps", spec := "atlasKeeps", inPlace := ["slices.overlaps[shelfmark/api.Part]"], unfollowed := true, recurses := true, apart := false }
def AtlasKeepsSaid : Prop := atlasKeepsRow.holds Try.pinned (OpenSpec.ofChange atlasKeepsSpec)

/-- ITS FALSE NEIGHBOUR: 'it returns false'. Refute it at one input. -/
def atlasKeepsWrong : ChangeSpec := { name := "atlasKeeps", fn := fun _ => fun
  | [d1, d2] => { results := [.lit (.bool false)], args := [d1, d2] }
  | _ => none }
def AtlasKeepsWrongFalsely : Prop := atlasKeepsRow.holds Try.pinned (OpenSpec.ofChange atlasKeepsWrong)

/-- 'shelfmarklaw12.AtlasTiles': WHATEVER THE INPUT: true; the input reads as it did. -/
def atlasTilesSpec : ChangeSpec := { name := "atlasTiles", fn := fun _ => fun
  | [d1, d2, d3] => { results := [.lit (.bool true)], args := [d1, d2, d3] }
  | _ => none }
def atlasTilesRow : OpenClaim := { program := "ytmgjccpolkhhhaa", sum := "de65435df48da0cc061dd54bf147a2b14bba7acd8c072003494fd8bbe0fd2e7d", func := "shelfmark/shelfmarklaw12.AtlasTiles", spec := "atlasTiles", inPlace := ["slices.overlaps[shelfmark/api.Part]"], unfollowed := true, recurses := true, apart := false }
def AtlasTilesSaid : Prop := atlasTilesRow.holds Try.pinned (OpenSpec.ofChange atlasTilesSpec)

/-- ITS FALSE NEIGHBOUR: 'it returns false'. Refute it at one input. -/
def atlasTilesWrong : ChangeSpec := { name := "atlasTiles", fn := fun _ => fun
  | [d1, d2, d3] => { results := [.lit (.bool false)], args := [d1, d2, d3] }
  | _ => none }
def AtlasTilesWrongFalsely : Prop := atlasTilesRow.holds Try.pinned (OpenSpec.ofChange atlasTilesWrong)

/-- 'shelfmarklaw12.AtlasPacks': WHATEVER THE INPUT: true; the input reads as it did. -/
def atlasPacksSpec : ChangeSpec := { name := "atlasPacks", fn := fun _ => fun
  | [d1, d2] => { results := [.lit (.bool true)], args := [d1, d2] }
  | _ => none }
def atlasPacksRow : OpenClaim := { program := "ytmgjccpolkhhhaa", sum := "de65435df48da0cc061dd54bf147a2b14bba7acd8c072003494fd8bbe0fd2e7d", func := "shelfmark/shelfmarklaw12.AtlasPacks", spec := "atlasPacks", inPlace := ["slices.overlaps[shelfmark/api.Part]"], unfollowed := true, recurses := true, apart := false }
def AtlasPacksSaid : Prop := atlasPacksRow.holds Try.pinned (OpenSpec.ofChange atlasPacksSpec)

/-- ITS FALSE NEIGHBOUR: 'it returns false'. Refute it at one input. -/
def atlasPacksWrong : ChangeSpec := { name := "atlasPacks", fn := fun _ => fun
  | [d1, d2] => { results := [.lit (.bool false)], args := [d1, d2] }
  | _ => none }
def AtlasPacksWrongFalsely : Prop := atlasPacksRow.holds Try.pinned (OpenSpec.ofChange atlasPacksWrong)

/- THE SECOND FORM. 'bulk': how many values and letters a reading holds, each counted each time it is reached (what is shared counts as often as it is met; a slice's spare places count too). A statement '..UptoSaid' is the law's where the arguments, and the package variables that the reading takes, are together of bulk at most 1048576: NARROWER than '..Said'. Prove '..Said' where nothing that the law and all that it calls make is longer than what came in: it says more and counts as full. Else prove '..UptoSaid'. A law counts once. -/
mutual
def uptoBulk {H : Type} : DataW H → Nat
  | .lit (.string bytes) => bytes.length + 1
  | .lit _ => 1
  | .nil => 1
  | .ptr d => uptoBulk d + 1
  | .slice elems spare => uptoBulkAll elems + uptoBulkAll spare + 1
  | .agg parts => uptoBulkAll parts + 1
  | .iface _ d => uptoBulk d + 1
  | .map entries => uptoBulkEntries entries + 1
  | .held _ => 1
def uptoBulkAll {H : Type} : List (DataW H) → Nat
  | [] => 0
  | d :: r => uptoBulk d + uptoBulkAll r
def uptoBulkEntries {H : Type} : List (Lit × DataW H) → Nat
  | [] => 0
  | x :: r => uptoBulkEntry x + uptoBulkEntries r
def uptoBulkEntry {H : Type} : Lit × DataW H → Nat
  | (.string bytes, d) => bytes.length + uptoBulk d + 1
  | (_, d) => uptoBulk d + 1
 end
def uptoSmall : (H : Type) → List (DataW H) → Bool := fun _ ds => decide (uptoBulkAll ds ≤ 1048576)
def OpenSpec.upto (s : _root_.Go.ChangeSpec) : _root_.Go.OpenSpec := { _root_.Go.OpenSpec.ofChange s with cond := some uptoSmall }

/-- 'shelfmarklaw12.AtlasChecks', WHERE WHAT IT READS IS OF BULK AT MOST 1048576: true; the input reads as it did. -/
def atlasChecksUptoRow : OpenClaim := { program := "ytmgjccpolkhhhaa", sum := "de65435df48da0cc061dd54bf147a2b14bba7acd8c072003494fd8bbe0fd2e7d", func := "shelfmark/shelfmarklaw12.AtlasChecks", spec := "atlasChecks", inPlace := ["slices.overlaps[shelfmark/api.Part]"], unfollowed := true, recurses := true, apart := false, narrowed := true }
def AtlasChecksUptoSaid : Prop := atlasChecksUptoRow.holds Try.pinned (OpenSpec.upto atlasChecksSpec)

/-- 'shelfmarklaw12.AtlasPlans', WHERE WHAT IT READS IS OF BULK AT MOST 1048576: true; the input reads as it did. -/
def atlasPlansUptoRow : OpenClaim := { program := "ytmgjccpolkhhhaa", sum := "de65435df48da0cc061dd54bf147a2b14bba7acd8c072003494fd8bbe0fd2e7d", func := "shelfmark/shelfmarklaw12.AtlasPlans", spec := "atlasPlans", inPlace := ["slices.overlaps[shelfmark/api.Part]"], unfollowed := true, recurses := true, apart := false, narrowed := true }
def AtlasPlansUptoSaid : Prop := atlasPlansUptoRow.holds Try.pinned (OpenSpec.upto atlasPlansSpec)

/-- 'shelfmarklaw12.AtlasBack', WHERE WHAT IT READS IS OF BULK AT MOST 1048576: true; the input reads as it did. -/
def atlasBackUptoRow : OpenClaim := { program := "ytmgjccpolkhhhaa", sum := "de65435df48da0cc061dd54bf147a2b14bba7acd8c072003494fd8bbe0fd2e7d", func := "shelfmark/shelfmarklaw12.AtlasBack", spec := "atlasBack", inPlace := ["slices.overlaps[shelfmark/api.Part]"], unfollowed := true, recurses := true, apart := false, narrowed := true }
def AtlasBackUptoSaid : Prop := atlasBackUptoRow.holds Try.pinned (OpenSpec.upto atlasBackSpec)

/-- 'shelfmarklaw12.AtlasKeeps', WHERE WHAT IT READS IS OF BULK AT MOST 1048576: true; the input reads as it did. -/
def atlasKeepsUptoRow : OpenClaim := { program := "ytmgjccpolkhhhaa", sum := "de65435df48da0cc061dd54bf147a2b14bba7acd8c072003494fd8bbe0fd2e7d", func := "shelfmark/shelfmarklaw12.AtlasKeeps", spec := "atlasKeeps", inPlace := ["slices.overlaps[shelfmark/api.Part]"], unfollowed := true, recurses := true, apart := false, narrowed := true }
def AtlasKeepsUptoSaid : Prop := atlasKeepsUptoRow.holds Try.pinned (OpenSpec.upto atlasKeepsSpec)

/-- 'shelfmarklaw12.AtlasTiles', WHERE WHAT IT READS IS OF BULK AT MOST 1048576: true; the input reads as it did. -/
def atlasTilesUptoRow : OpenClaim := { program := "ytmgjccpolkhhhaa", sum := "de65435df48da0cc061dd54bf147a2b14bba7acd8c072003494fd8bbe0fd2e7d", func := "shelfmark/shelfmarklaw12.AtlasTiles", spec := "atlasTiles", inPlace := ["slices.overlaps[shelfmark/api.Part]"], unfollowed := true, recurses := true, apart := false, narrowed := true }
def AtlasTilesUptoSaid : Prop := atlasTilesUptoRow.holds Try.pinned (OpenSpec.upto atlasTilesSpec)

/-- 'shelfmarklaw12.AtlasPacks', WHERE WHAT IT READS IS OF BULK AT MOST 1048576: true; the input reads as it did. -/
def atlasPacksUptoRow : OpenClaim := { program := "ytmgjccpolkhhhaa", sum := "de65435df48da0cc061dd54bf147a2b14bba7acd8c072003494fd8bbe0fd2e7d", func := "shelfmark/shelfmarklaw12.AtlasPacks", spec := "atlasPacks", inPlace := ["slices.overlaps[shelfmark/api.Part]"], unfollowed := true, recurses := true, apart := false, narrowed := true }
def AtlasPacksUptoSaid : Prop := atlasPacksUptoRow.holds Try.pinned (OpenSpec.upto atlasPacksSpec)

end Rows
end Go.Proofs.Ytmgjccpolkhhhaa
