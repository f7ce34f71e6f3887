/-
  No cell of these rows narrows 'for every input' (looked for: loops, veiled, ifaces, maps, wideKeys, modest, calm, conditions, laid).
  DERIVED. THE GIVEN ROWS OF THIS SEAT. 6 by the template 'for every input the law returns true; each argument reads behind the call as it read before'; 0 by the template 'total and deterministic' (their statements: YtkkfkccfnfjbiaaTotals.lean).
  GIVEN WITH THE SEED: the statements are not yours to turn. If you find one false, say at which input.
  Laid BY PROGRAM, IN A SANDBOX (cutbox-rows.mjs): the forced cells as the released guide's own fill.sh prints them over the translation 0c521f0df3cd9380… (all of the seat's roots in one cut). By AI agents, Wed Nov 11 2026. No macro, syntax, notation, axiom, sorry.
-/
import Derived.Test.YtkkfkccfnfjbiaaChecked
import GoSem.Claim
import GoSem.ClaimJoined
import GoSem.ClaimMapViews
import Derived.JoinedTies
import Derived.KernelRfl
namespace Go.Proofs.Ytkkfkccfnfjbiaa
/- THE CELL 'sum', in the pinned program and in every row, IS THE sha256 OF THE DUMP (.gsa) THAT YtkkfkccfnfjbiaaProg.lean LOADS. Nothing in Lean hashes anything: it is a label: what it is worth is what the hold of that sum in a sandbox is worth. -/
noncomputable def Try.pinned : Pinned := { name := "ytkkfkccfnfjbiaa", sum := "0c521f0df3cd938096205fefc7a9085b47f50793d399663fb03771e4d8379956", checked := Try.checked }
namespace Rows
def none {H : Type} : Left H := { results := [], args := [] }

/-- 'shelfmarklaw09.RunMerges': WHATEVER THE INPUT: true; the input reads as it did. -/
def runMergesSpec : ChangeSpec := { name := "runMerges", fn := fun _ => fun
  | [d1, d2] => { results := [.lit (.bool true)], args := [d1, d2] }
  | _ => none }
def runMergesRow : OpenClaim := { program := "ytkkfkccfnfjbiaa", sum := "0c521f0df3cd938096205fefc7a9085b47f50793d399663fb03771e4d8379956", func := "shelfmark/shelfmarklaw09.RunMerges", spec := "runMerges", unfollowed := true, recurses := true, apart := false }
def RunMergesSaid : Prop := runMergesRow.holds Try.pinned (OpenSpec.ofChange runMergesSpec)

/-- ITS FALSE NEIGHBOUR: 'it returns false'. Refute it at one input. -/
def runMergesWrong : ChangeSpec := { name := "runMerges", fn := fun _ => fun
  | [d1, d2] => { results := [.lit (.bool false)], args := [d1, d2] }
  | _ => none }
def RunMergesWrongFalsely : Prop := runMergesRow.holds Try.pinned (OpenSpec.ofChange runMergesWrong)

/-- 'shelfmarklaw09.RunFinds': WHATEVER THE INPUT: true; the input reads as it did. -/
def runFindsSpec : ChangeSpec := { name := "runFinds", fn := fun _ => fun
  | [d1, d2, d3] => { results := [.lit (.bool true)], args := [d1, d2, d3] }
  | _ => none }
def runFindsRow : OpenClaim := { program := "ytkkfkccfnfjbiaa", sum := "0c521f0df3cd938096205fefc7a9085b47f50793d399663fb03771e4d8379956", func := "shelfmark/shelfmarklaw09.RunFinds", spec := "runFinds", unfollowed := true, recurses := true, apart := false }
def RunFindsSaid : Prop := runFindsRow.holds Try.pinned (OpenSpec.ofChange runFindsSpec)

/-- ITS FALSE NEIGHBOUR: 'it returns false'. Refute it at one input. -/
def runFindsWrong : ChangeSpec := { name := "runFinds", fn := fun _ => fun
  | [d1, d2, d3] => { results := [.lit (.bool false)], args := [d1, d2, d3] }
  | _ => none }
def RunFindsWrongFalsely : Prop := runFindsRow.holds Try.pinned (OpenSpec.ofChange runFindsWrong)

/-- 'shelfmarklaw09.RunPacks': WHATEVER THE INPUT: true; the input reads as it did. -/
def runPacksSpec : ChangeSpec := { name := "runPacks", fn := fun _ => fun
  | [d1, d2] => { results := [.lit (.bool true)], args := [d1, d2] }
  | _ => none }
def runPacksRow : OpenClaim := { program := "ytkkfkccfnfjbiaa", sum := "0c521f0df3cd938096205fefc7a9085b47f50793d399663fb03771e4d8379956", func := "shelfmark/shelfmarklaw09.RunPacks", spec := "runPacks", unfollowed := true, recurses := true, apart := false }
def RunPacksSaid : Prop := runPacksRow.holds Try.pinned (OpenSpec.ofChange runPacksSpec)

/-- ITS FALSE NEIGHBOUR: 'it returns false'. Refute it at one input. -/
def runPacksWrong : ChangeSpec := { name := "runPacks", fn := fun _ => fun
  | [d1, d2] => { results := [.lit (.bool false)], args := [d1, d2] }
  | _ => none }
def RunPacksWrongFalsely : Prop := runPacksRow.holds Try.pinned (OpenSpec.ofChange runPacksWrong)

/-- 'shelfmarklaw09.RunMakes': WHATEVER THE INPUT: true; the input reads as it did. -/
def runMakesSpec : ChangeSpec := { name := "runMakes", fn := fun _ => fun
  | [d] => { results := [.lit (.bool true)], args := [d] }
  | _ => none }
def runMakesRow : OpenClaim := { program := "ytkkfkccfnfjbiaa", sum := "0c521f0df3cd938096205fefc7a9085b47f50793d399663fb03771e4d8379956", func := "shelfmark/shelfmarklaw09.RunMakes", spec := "runMakes", unfollowed := true, recurses := true, apart := false }
def RunMakesSaid : Prop := runMakesRow.holds Try.pinned (OpenSpec.ofChange runMakesSpec)

/-- ITS FALSE NEIGHBOUR: 'it returns false'. Refute it at one input. -/
def runMakesWrong : ChangeSpec := { name := "runMakes", fn := fun _ => fun
  | [d] => { results := [.lit (.bool false)], args := [d] }
  | _ => none }
def RunMakesWrongFalsely : Prop := runMakesRow.holds Try.pinned (OpenSpec.ofChange runMakesWrong)

/-- 'shelfmarklaw09.RunGroups': WHATEVER THE INPUT: true; the input reads as it did. -/
def runGroupsSpec : ChangeSpec := { name := "runGroups", fn := fun _ => fun
  | [d1, d2, d3, d4] => { results := [.lit (.bool true)], args := [d1, d2, d3, d4] }
  | _ => none }
def runGroupsRow : OpenClaim := { program := "ytkkfkccfnfjbiaa", sum := "0c521f0df3cd938096205fefc7a9085b47f50793d399663fb03771e4d8379956", func := "shelfmark/shelfmarklaw09.RunGroups", spec := "runGroups", unfollowed := true, recurses := true, apart := false }
def RunGroupsSaid : Prop := runGroupsRow.holds Try.pinned (OpenSpec.ofChange runGroupsSpec)

/-- ITS FALSE NEIGHBOUR: 'it returns false'. Refute it at one input. -/
def runGroupsWrong : ChangeSpec := { name := "runGroups", fn := fun _ => fun
  | [d1, d2, d3, d4] => { results := [.lit (.bool false)], args := [d1, d2, d3, d4] }
  | _ => none }
def RunGroupsWrongFalsely : Prop := runGroupsRow.holds Try.pinned (OpenSpec.ofChange runGroupsWrong)

/-- 'shelfmarklaw09.RunKeeps': WHATEVER THE INPUT: true; the input reads as it did. -/
def runKeepsSpec : ChangeSpec := { name := "runKeeps", fn := fun _ => fun
  | [d] => { results := [.lit (.bool true)], args := [d] }
  | _ => none }
def runKeepsRow : OpenClaim := { program := "ytkkfkccfnfjbiaa", sum := "0c521f0df3cd938096205fefc7a9085b47f50793d399663fb03771e4d8379956", func := "shelfmark/shelfmarklaw09.RunKeeps", spec := "runKeeps", unfollowed := true, recurses := true, apart := false }
def RunKeepsSaid : Prop := runKeepsRow.holds Try.pinned (OpenSpec.ofChange runKeepsSpec)

/-- ITS FALSE NEIGHBOUR: 'it returns false'. Refute it at one input. -/
def runKeepsWrong : ChangeSpec := { name := "runKeeps", fn := fun _ => fun
  | [d] => { results := [.lit (.bool false)], args := [d] }
  | _ => none }
def RunKeepsWrongFalsely : Prop := runKeepsRow.holds Try.pinned (OpenSpec.ofChange runKeepsWrong)

/- THE SECOND FORM. 'bulk': how many values and letters a reading holds, each counted each time it is reached (what is shared counts as often as it is met; a slice's spare places count too). A statement '..UptoSaid' is the law's where the arguments, and the package variables that the reading takes, are together of bulk at most 1048576: NARROWER than '..Said'. Prove '..Said' where nothing that the law and all that it calls make is longer than what came in: it says more and counts as full. Else prove '..UptoSaid'. A law counts once. -/
mutual
def uptoBulk {H : Type} : DataW H → Nat
  | .lit (.string bytes) => bytes.length + 1
  | .lit _ => 1
  | .nil => 1
  | .ptr d => uptoBulk d + 1
  | .slice elems spare => uptoBulkAll elems + uptoBulkAll spare + 1
  | .agg parts => uptoBulkAll parts + 1
  | .iface _ d => uptoBulk d + 1
  | .map entries => uptoBulkEntries entries + 1
  | .held _ => 1
def uptoBulkAll {H : Type} : List (DataW H) → Nat
  | [] => 0
  | d :: r => uptoBulk d + uptoBulkAll r
def uptoBulkEntries {H : Type} : List (Lit × DataW H) → Nat
  | [] => 0
  | x :: r => uptoBulkEntry x + uptoBulkEntries r
def uptoBulkEntry {H : Type} : Lit × DataW H → Nat
  | (.string bytes, d) => bytes.length + uptoBulk d + 1
  | (_, d) => uptoBulk d + 1
 end
def uptoSmall : (H : Type) → List (DataW H) → Bool := fun _ ds => decide (uptoBulkAll ds ≤ 1048576)
def OpenSpec.upto (s : _root_.Go.ChangeSpec) : _root_.Go.OpenSpec := { _root_.Go.OpenSpec.ofChange s with cond := some uptoSmall }

/-- 'shelfmarklaw09.RunMerges', WHERE WHAT IT READS IS OF BULK AT MOST 1048576: true; the input reads as it did. -/
def runMergesUptoRow : OpenClaim := { program := "ytkkfkccfnfjbiaa", sum := "0c521f0df3cd938096205fefc7a9085b47f50793d399663fb03771e4d8379956", func := "shelfmark/shelfmarklaw09.RunMerges", spec := "runMerges", unfollowed := true, recurses := true, apart := false, narrowed := true }
def RunMergesUptoSaid : Prop := runMergesUptoRow.holds Try.pinned (OpenSpec.upto runMergesSpec)

/-- 'shelfmarklaw09.RunFinds', WHERE WHAT IT READS IS OF BULK AT MOST 1048576: true; the input reads as it did. -/
def runFindsUptoRow : OpenClaim := { program := "ytkkfkccfnfjbiaa", sum := "0c521f0df3cd938096205fefc7a9085b47f50793d399663fb03771e4d8379956", func := "shelfmark/shelfmarklaw09.RunFinds", spec := "runFinds", unfollowed := true, recurses := true, apart := false, narrowed := true }
def RunFindsUptoSaid : Prop := runFindsUptoRow.holds Try.pinned (OpenSpec.upto runFindsSpec)

/-- 'shelfmarklaw09.RunPacks', WHERE WHAT IT READS IS OF BULK AT MOST 1048576: true; the input reads as it did. -/
def runPacksUptoRow : OpenClaim := { program := "ytkkfkccfnfjbiaa", sum := "0c521f0df3cd938096205fefc7a9085b47f50793d399663fb03771e4d8379956", func := "shelfmark/shelfmarklaw09.RunPacks", spec := "runPacks", unfollowed := true, recurses := true, apart := false, narrowed := true }
def RunPacksUptoSaid : Prop := runPacksUptoRow.holds Try.pinned (OpenSpec.upto runPacksSpec)

/-- 'shelfmarklaw09.RunMakes', WHERE WHAT IT READS IS OF BULK AT MOST 1048576: true; the input reads as it did. -/
def runMakesUptoRow : OpenClaim := { program := "ytkkfkccfnfjbiaa", sum := "0c521f0df3cd938096205fefc7a9085b47f50793d399663fb03771e4d8379956", func := "shelfmark/shelfmarklaw09.RunMakes", spec := "runMakes", unfollowed := true, recurses := true, apart := false, narrowed := true }
def RunMakesUptoSaid : Prop := runMakesUptoRow.holds Try.pinned (OpenSpec.upto runMakesSpec)

/-- 'shelfmarklaw09.RunGroups', WHERE WHAT IT READS IS OF BULK AT MOST 1048576: true; the input reads as it did. -/
def runGroupsUptoRow : OpenClaim := { program := "ytkkfkccfnfjbiaa", sum := "0c521f0df3cd938096205fefc7a9085b47f50793d399663fb03771e4d8379956", func := "shelfmark/shelfmarklaw09.RunGroups", spec := "runGroups", unfollowed := true, recurses := true, apart := false, narrowed := true }
def RunGroupsUptoSaid : Prop := runGroupsUptoRow.holds Try.pinned (OpenSpec.upto runGroupsSpec)

/-- 'shelfmarklaw09.RunKeeps', WHERE WHAT IT READS IS OF BULK AT MOST 1048576: true; the input reads as it did. -/
def runKeepsUptoRow : OpenClaim := { program := "ytkkfkccfnfjbiaa", sum := "0c521f0df3cd938096205fefc7a9085b47f50793d399663fb03771e4d8379956", func := "shelfmark/shelfmarklaw09.RunKeeps", spec := "runKeeps", unfollowed := true, recurses := true, apart := false, narrowed := true }
def RunKeepsUptoSaid : Prop := runKeepsUptoRow.holds Try.pinned (OpenSpec.upto runKeepsSpec)

end Rows
end Go.Proofs.Ytkkfkccfnfjbiaa
