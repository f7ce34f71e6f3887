/-
  No cell of these rows narrows 'for every input' (looked for: loops, veiled, ifaces, maps, wideKeys, modest, calm, conditions, laid).
  DERIVED. THE GIVEN ROWS OF THIS SEAT. 4 by the template 'for every input the law returns true; each argument reads behind the call as it read before'; 0 by the template 'total and deterministic' (their statements: YtdaikljbljcagaaTotals.lean).
  GIVEN WITH THE SEED: the statements are not yours to turn. If you find one false, say at which input.
  Laid BY PROGRAM, IN A SANDBOX (cutbox-rows.mjs): the forced cells as the released guide's own fill.sh prints them over the translation e8c78a5058a133ff… (all of the seat's roots in one cut). By AI agents, Wed Nov 11 2026. No macro, syntax, notation, axiom, sorry.
-/
import Derived.Test.YtdaikljbljcagaaChecked
import GoSem.Claim
import GoSem.ClaimJoined
import GoSem.ClaimMapViews
import Derived.JoinedTies
import Derived.KernelRfl
namespace Go.Proofs.Ytdaikljbljcagaa
/- THE CELL 'sum', in the pinned program and in every row, IS THE sha256 OF THE DUMP (.gsa) THAT YtdaikljbljcagaaProg.lean LOADS. Nothing in Lean hashes anything: it is a label: what it is worth is what the hold of that sum in a sandbox is worth. -/
noncomputable def Try.pinned : Pinned := { name := "ytdaikljbljcagaa", sum := "e8c78a5058a133ff77fbabc961538a42e4cc1444b6b8d907d7ac60665c9dc995", checked := Try.checked }
namespace Rows
def none {H : Type} : Left H := { results := [], args := [] }

/-- 'shelfmarklaw18.OutboxLatest': WHATEVER THE INPUT: true; the input reads as it did. -/
def outboxLatestSpec : ChangeSpec := { name := "outboxLatest", fn := fun _ => fun
  | [d1, d2] => { results := [.lit (.bool true)], args := [d1, d2] }
  | _ => none }
def outboxLatestRow : OpenClaim := { program := "ytdaikljbljcagaa", sum := "e8c78a5058a133ff77fbabc961538a42e4cc1444b6b8d907d7ac60665c9dc995", func := "shelfmark/shelfmarklaw18.OutboxLatest", spec := "outboxLatest", inPlace := ["internal/abi.NoEscape"], unfollowed := true, recurses := true, plainKeys := false, apart := false }
def OutboxLatestSaid : Prop := outboxLatestRow.holds Try.pinned (OpenSpec.ofChange outboxLatestSpec)

/-- ITS FALSE NEIGHBOUR: 'it returns false'. Refute it at one input. -/
def outboxLatestWrong : ChangeSpec := { name := "outboxLatest", fn := fun _ => fun
  | [d1, d2] => { results := [.lit (.bool false)], args := [d1, d2] }
  | _ => none }
def OutboxLatestWrongFalsely : Prop := outboxLatestRow.holds Try.pinned (OpenSpec.ofChange outboxLatestWrong)

/-- 'shelfmarklaw18.OutboxKeeps': WHATEVER THE INPUT: true; the input reads as it did. -/
def outboxKeepsSpec : ChangeSpec := { name := "outboxKeeps", fn := fun _ => fun
  | [d] => { results := [.lit (.bool true)], args := [d] }
  | _ => none }
def outboxKeepsRow : OpenClaim := { program := "ytdaikljbljcagaa", sum := "e8c78a5058a133ff77fbabc961538a42e4cc1444b6b8d907d7ac60665c9dc995", func := "shelfmark/shelfmarklaw18.OutboxKeeps", spec := "outboxKeeps", inPlace := ["internal/abi.NoEscape"], unfollowed := true, recurses := true, plainKeys := false, apart := false }
def OutboxKeepsSaid : Prop := outboxKeepsRow.holds Try.pinned (OpenSpec.ofChange outboxKeepsSpec)

/-- ITS FALSE NEIGHBOUR: 'it returns false'. Refute it at one input. -/
def outboxKeepsWrong : ChangeSpec := { name := "outboxKeeps", fn := fun _ => fun
  | [d] => { results := [.lit (.bool false)], args := [d] }
  | _ => none }
def OutboxKeepsWrongFalsely : Prop := outboxKeepsRow.holds Try.pinned (OpenSpec.ofChange outboxKeepsWrong)

/-- 'shelfmarklaw18.OutboxPlays': WHATEVER THE INPUT: true; the input reads as it did. -/
def outboxPlaysSpec : ChangeSpec := { name := "outboxPlays", fn := fun _ => fun
  | [d1, d2] => { results := [.lit (.bool true)], args := [d1, d2] }
  | _ => none }
def outboxPlaysRow : OpenClaim := { program := "ytdaikljbljcagaa", sum := "e8c78a5058a133ff77fbabc961538a42e4cc1444b6b8d907d7ac60665c9dc995", func := "shelfmark/shelfmarklaw18.OutboxPlays", spec := "outboxPlays", inPlace := ["internal/abi.NoEscape"], unfollowed := true, recurses := true, plainKeys := false, apart := false }
def OutboxPlaysSaid : Prop := outboxPlaysRow.holds Try.pinned (OpenSpec.ofChange outboxPlaysSpec)

/-- ITS FALSE NEIGHBOUR: 'it returns false'. Refute it at one input. -/
def outboxPlaysWrong : ChangeSpec := { name := "outboxPlays", fn := fun _ => fun
  | [d1, d2] => { results := [.lit (.bool false)], args := [d1, d2] }
  | _ => none }
def OutboxPlaysWrongFalsely : Prop := outboxPlaysRow.holds Try.pinned (OpenSpec.ofChange outboxPlaysWrong)

/-- 'shelfmarklaw18.OutboxCuts': WHATEVER THE INPUT: true; the input reads as it did. -/
def outboxCutsSpec : ChangeSpec := { name := "outboxCuts", fn := fun _ => fun
  | [d1, d2, d3, d4] => { results := [.lit (.bool true)], args := [d1, d2, d3, d4] }
  | _ => none }
def outboxCutsRow : OpenClaim := { program := "ytdaikljbljcagaa", sum := "e8c78a5058a133ff77fbabc961538a42e4cc1444b6b8d907d7ac60665c9dc995", func := "shelfmark/shelfmarklaw18.OutboxCuts", spec := "outboxCuts", inPlace := ["internal/abi.NoEscape"], unfollowed := true, recurses := true, plainKeys := false, apart := false }
def OutboxCutsSaid : Prop := outboxCutsRow.holds Try.pinned (OpenSpec.ofChange outboxCutsSpec)

/-- ITS FALSE NEIGHBOUR: 'it returns false'. Refute it at one input. -/
def outboxCutsWrong : ChangeSpec := { name := "outboxCuts", fn := fun _ => fun
  | [d1, d2, d3, d4] => { results := [.lit (.bool false)], args := [d1, d2, d3, d4] }
  | _ => none }
def OutboxCutsWrongFalsely : Prop := outboxCutsRow.holds Try.pinned (OpenSpec.ofChange outboxCutsWrong)

/- THE SECOND FORM. 'bulk': how many values and letters a reading holds, each counted each time it is reached (what is shared counts as often as it is met; a slice's spare places count too). A statement '..UptoSaid' is the law's where the arguments, and the package variables that the reading takes, are together of bulk at most 1048576: NARROWER than '..Said'. Prove '..Said' where nothing that the law and all that it calls make is longer than what came in: it says more and counts as full. Else prove '..UptoSaid'. A law counts once. -/
mutual
def uptoBulk {H : Type} : DataW H → Nat
  | .lit (.string bytes) => bytes.length + 1
  | .lit _ => 1
  | .nil => 1
  | .ptr d => uptoBulk d + 1
  | .slice elems spare => uptoBulkAll elems + uptoBulkAll spare + 1
  | .agg parts => uptoBulkAll parts + 1
  | .iface _ d => uptoBulk d + 1
  | .map entries => uptoBulkEntries entries + 1
  | .held _ => 1
def uptoBulkAll {H : Type} : List (DataW H) → Nat
  | [] => 0
  | d :: r => uptoBulk d + uptoBulkAll r
def uptoBulkEntries {H : Type} : List (Lit × DataW H) → Nat
  | [] => 0
  | x :: r => uptoBulkEntry x + uptoBulkEntries r
def uptoBulkEntry {H : Type} : Lit × DataW H → Nat
  | (.string bytes, d) => bytes.length + uptoBulk d + 1
  | (_, d) => uptoBulk d + 1
 end
def uptoSmall : (H : Type) → List (DataW H) → Bool := fun _ ds => decide (uptoBulkAll ds ≤ 1048576)
def OpenSpec.upto (s : _root_.Go.ChangeSpec) : _root_.Go.OpenSpec := { _root_.Go.OpenSpec.ofChange s with cond := some uptoSmall }

/-- 'shelfmarklaw18.OutboxLatest', WHERE WHAT IT READS IS OF BULK AT MOST 1048576: true; the input reads as it did. -/
def outboxLatestUptoRow : OpenClaim := { program := "ytdaikljbljcagaa", sum := "e8c78a5058a133ff77fbabc961538a42e4cc1444b6b8d907d7ac60665c9dc995", func := "shelfmark/shelfmarklaw18.OutboxLatest", spec := "outboxLatest", inPlace := ["internal/abi.NoEscape"], unfollowed := true, recurses := true, plainKeys := false, apart := false, narrowed := true }
def OutboxLatestUptoSaid : Prop := outboxLatestUptoRow.holds Try.pinned (OpenSpec.upto outboxLatestSpec)

/-- 'shelfmarklaw18.OutboxKeeps', WHERE WHAT IT READS IS OF BULK AT MOST 1048576: true; the input reads as it did. -/
def outboxKeepsUptoRow : OpenClaim := { program := "ytdaikljbljcagaa", sum := "e8c78a5058a133ff77fbabc961538a42e4cc1444b6b8d907d7ac60665c9dc995", func := "shelfmark/shelfmarklaw18.OutboxKeeps", spec := "outboxKeeps", inPlace := ["internal/abi.NoEscape"], unfollowed := true, recurses := true, plainKeys := false, apart := false, narrowed := true }
def OutboxKeepsUptoSaid : Prop := outboxKeepsUptoRow.holds Try.pinned (OpenSpec.upto outboxKeepsSpec)

/-- 'shelfmarklaw18.OutboxPlays', WHERE WHAT IT READS IS OF BULK AT MOST 1048576: true; the input reads as it did. -/
def outboxPlaysUptoRow : OpenClaim := { program := "ytdaikljbljcagaa", sum := "e8c78a5058a133ff77fbabc961538a42e4cc1444b6b8d907d7ac60665c9dc995", func := "shelfmark/shelfmarklaw18.OutboxPlays", spec := "outboxPlays", inPlace := ["internal/abi.NoEscape"], unfollowed := true, recurses := true, plainKeys := false, apart := false, narrowed := true }
def OutboxPlaysUptoSaid : Prop := outboxPlaysUptoRow.holds Try.pinned (OpenSpec.upto outboxPlaysSpec)

/-- 'shelfmarklaw18.OutboxCuts', WHERE WHAT IT READS IS OF BULK AT MOST 1048576: true; the input reads as it did. -/
def outboxCutsUptoRow : OpenClaim := { program := "ytdaikljbljcagaa", sum := "e8c78a5058a133ff77fbabc961538a42e4cc1444b6b8d907d7ac60665c9dc995", func := "shelfmark/shelfmarklaw18.OutboxCuts", spec := "outboxCuts", inPlace := ["internal/abi.NoEscape"], unfollowed := true, recurses := true, plainKeys := false, apart := false, narrowed := true }
def OutboxCutsUptoSaid : Prop := outboxCutsUptoRow.holds Try.pinned (OpenSpec.upto outboxCutsSpec)

end Rows
end Go.Proofs.Ytdaikljbljcagaa
