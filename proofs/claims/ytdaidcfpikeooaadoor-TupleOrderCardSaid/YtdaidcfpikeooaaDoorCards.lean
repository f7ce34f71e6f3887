/-
  DERIVED. GIVEN WITH THE SEED: THE CARDS: each row of YtdaidcfpikeooaaDoorRows.lean that lists a variable, with what it lists TIED to the program's text (the seventh form; the later family's looks); each row that meets fmt, with fmt's text TOLD by the authors' own Lean function (tested against real Go, not proved from fmt's source: count such statements apart). THE CARD IS WHAT COUNTS. Prove the row's statement (the work); the ties are given (YtdaidcfpikeooaaDoorTie.lean); close each card by the builder's one call (the guide's Derived/Test/ToyasCard.lean, 'card_holds'). Laid BY PROGRAM, IN A SANDBOX (cutbox-door.mjs). By AI agents, Wed Nov 11 2026. No macro, syntax, notation, axiom, sorry.
-/
import Derived.Test.YtdaidcfpikeooaaDoorRows
import GoSem.ClaimSeven
namespace Go.Proofs.YtdaidcfpikeooaaDoor
namespace Rows

/-- THE TIED CARD OF 'shelfmarklaw03.TupleBack'. -/
def tupleBackCard : Claim7 := { stood := { row := tupleBackRow, standIns := [], harness := (true, "c9f2f8ebf82de4cd25d6586c9829afb5acd909ee83aea85d44d449e43ecfca95"), looks := false }, kinds := [], alts := [], laidByText := true, laidKinds := [.data, .pinned], laidTests := true, laidLooks := .later }
def TupleBackCardSaid : Prop := Claim7.holds Tryd.pinned (.plain (OpenSpec.ofChange tupleBackSpec)) tupleBackCard

/-- THE TIED CARD OF 'shelfmarklaw03.TupleNext'. -/
def tupleNextCard : Claim7 := { stood := { row := tupleNextRow, standIns := [], harness := (true, "c9f2f8ebf82de4cd25d6586c9829afb5acd909ee83aea85d44d449e43ecfca95"), looks := false }, kinds := [], alts := [], laidByText := true, laidKinds := [.data, .pinned], laidTests := true, laidLooks := .later }
def TupleNextCardSaid : Prop := Claim7.holds Tryd.pinned (.plain (OpenSpec.ofChange tupleNextSpec)) tupleNextCard

/-- THE TIED CARD OF 'shelfmarklaw03.TupleKeeps'. -/
def tupleKeepsCard : Claim7 := { stood := { row := tupleKeepsRow, standIns := [], harness := (true, "c9f2f8ebf82de4cd25d6586c9829afb5acd909ee83aea85d44d449e43ecfca95"), looks := false }, kinds := [], alts := [], laidByText := true, laidKinds := [.data, .pinned], laidTests := true, laidLooks := .later }
def TupleKeepsCardSaid : Prop := Claim7.holds Tryd.pinned (.plain (OpenSpec.ofChange tupleKeepsSpec)) tupleKeepsCard

/-- THE TIED CARD OF 'shelfmarklaw03.TupleKeys'. -/
def tupleKeysCard : Claim7 := { stood := { row := tupleKeysRow, standIns := [], harness := (true, "c9f2f8ebf82de4cd25d6586c9829afb5acd909ee83aea85d44d449e43ecfca95"), looks := false }, kinds := [], alts := [], laidByText := true, laidKinds := [.data, .pinned], laidTests := true, laidLooks := .later }
def TupleKeysCardSaid : Prop := Claim7.holds Tryd.pinned (.plain (OpenSpec.ofChange tupleKeysSpec)) tupleKeysCard

/-- THE TIED CARD OF 'shelfmarklaw03.TupleOrder'. -/
def tupleOrderCard : Claim7 := { stood := { row := tupleOrderRow, standIns := [], harness := (true, "c9f2f8ebf82de4cd25d6586c9829afb5acd909ee83aea85d44d449e43ecfca95"), looks := false }, kinds := [], alts := [], laidByText := true, laidKinds := [.data, .pinned], laidTests := true, laidLooks := .later }
def TupleOrderCardSaid : Prop := Claim7.holds Tryd.pinned (.plain (OpenSpec.ofChange tupleOrderSpec)) tupleOrderCard

/-- THE SECOND FORM's CARD OF 'shelfmarklaw03.TupleBack'. -/
def tupleBackUptoCard : Claim7 := { stood := { row := tupleBackUptoRow, standIns := [], harness := (true, "c9f2f8ebf82de4cd25d6586c9829afb5acd909ee83aea85d44d449e43ecfca95"), looks := false }, kinds := [], alts := [], laidByText := true, laidKinds := [.data, .pinned], laidTests := true, laidLooks := .later }
def TupleBackUptoCardSaid : Prop := Claim7.holds Tryd.pinned (.plain (OpenSpec.upto tupleBackSpec)) tupleBackUptoCard

/-- THE SECOND FORM's CARD OF 'shelfmarklaw03.TupleNext'. -/
def tupleNextUptoCard : Claim7 := { stood := { row := tupleNextUptoRow, standIns := [], harness := (true, "c9f2f8ebf82de4cd25d6586c9829afb5acd909ee83aea85d44d449e43ecfca95"), looks := false }, kinds := [], alts := [], laidByText := true, laidKinds := [.data, .pinned], laidTests := true, laidLooks := .later }
def TupleNextUptoCardSaid : Prop := Claim7.holds Tryd.pinned (.plain (OpenSpec.upto tupleNextSpec)) tupleNextUptoCard

/-- THE SECOND FORM's CARD OF 'shelfmarklaw03.TupleKeeps'. -/
def tupleKeepsUptoCard : Claim7 := { stood := { row := tupleKeepsUptoRow, standIns := [], harness := (true, "c9f2f8ebf82de4cd25d6586c9829afb5acd909ee83aea85d44d449e43ecfca95"), looks := false }, kinds := [], alts := [], laidByText := true, laidKinds := [.data, .pinned], laidTests := true, laidLooks := .later }
def TupleKeepsUptoCardSaid : Prop := Claim7.holds Tryd.pinned (.plain (OpenSpec.upto tupleKeepsSpec)) tupleKeepsUptoCard

/-- THE SECOND FORM's CARD OF 'shelfmarklaw03.TupleKeys'. -/
def tupleKeysUptoCard : Claim7 := { stood := { row := tupleKeysUptoRow, standIns := [], harness := (true, "c9f2f8ebf82de4cd25d6586c9829afb5acd909ee83aea85d44d449e43ecfca95"), looks := false }, kinds := [], alts := [], laidByText := true, laidKinds := [.data, .pinned], laidTests := true, laidLooks := .later }
def TupleKeysUptoCardSaid : Prop := Claim7.holds Tryd.pinned (.plain (OpenSpec.upto tupleKeysSpec)) tupleKeysUptoCard

/-- THE SECOND FORM's CARD OF 'shelfmarklaw03.TupleOrder'. -/
def tupleOrderUptoCard : Claim7 := { stood := { row := tupleOrderUptoRow, standIns := [], harness := (true, "c9f2f8ebf82de4cd25d6586c9829afb5acd909ee83aea85d44d449e43ecfca95"), looks := false }, kinds := [], alts := [], laidByText := true, laidKinds := [.data, .pinned], laidTests := true, laidLooks := .later }
def TupleOrderUptoCardSaid : Prop := Claim7.holds Tryd.pinned (.plain (OpenSpec.upto tupleOrderSpec)) tupleOrderUptoCard
end Rows
end Go.Proofs.YtdaidcfpikeooaaDoor
