/-
  DERIVED. GIVEN WITH THE SEED: THE CARDS: each row of YtieifhjjjlmkbaaDoorRows.lean that lists a variable, with what it lists TIED to the program's text (the seventh form; the later family's looks); each row that meets fmt, with fmt's text TOLD by the authors' own Lean function (tested against real Go, not proved from fmt's source: count such statements apart). THE CARD IS WHAT COUNTS. Prove the row's statement (the work); the ties are given (YtieifhjjjlmkbaaDoorTie.lean); close each card by the builder's one call (the guide's Derived/Test/ToyasCard.lean, 'card_holds'). Laid BY PROGRAM, IN A SANDBOX (cutbox-door.mjs). By AI agents, Wed Nov 11 2026. No macro, syntax, notation, axiom, sorry.
-/
import Derived.Test.YtieifhjjjlmkbaaDoorRows
import GoSem.ClaimSeven
namespace Go.Proofs.YtieifhjjjlmkbaaDoor
namespace Rows

/-- THE TIED CARD OF 'shelfmarklaw04.RecordShows'. -/
def recordShowsCard : Claim7 := { stood := { row := recordShowsRow, standIns := [], harness := (true, "1387506f5e06ffea3a66f3dced7b306cf36551a5d7a22201a43aa6f468224a34"), looks := false }, kinds := [], alts := [], laidByText := true, laidKinds := [.data, .pinned], laidTests := true, laidLooks := .later }
def RecordShowsCardSaid : Prop := Claim7.holds Tryd.pinned (.plain (OpenSpec.ofChange recordShowsSpec)) recordShowsCard

/-- THE TIED CARD OF 'shelfmarklaw04.RecordOrder'. -/
def recordOrderCard : Claim7 := { stood := { row := recordOrderRow, standIns := [], harness := (true, "1387506f5e06ffea3a66f3dced7b306cf36551a5d7a22201a43aa6f468224a34"), looks := false }, kinds := [], alts := [], laidByText := true, laidKinds := [.data, .pinned], laidTests := true, laidLooks := .later }
def RecordOrderCardSaid : Prop := Claim7.holds Tryd.pinned (.plain (OpenSpec.ofChange recordOrderSpec)) recordOrderCard

/-- THE TIED CARD OF 'shelfmarklaw04.RecordKeeps'. -/
def recordKeepsCard : Claim7 := { stood := { row := recordKeepsRow, standIns := [], harness := (true, "1387506f5e06ffea3a66f3dced7b306cf36551a5d7a22201a43aa6f468224a34"), looks := false }, kinds := [], alts := [], laidByText := true, laidKinds := [.data, .pinned], laidTests := true, laidLooks := .later }
def RecordKeepsCardSaid : Prop := Claim7.holds Tryd.pinned (.plain (OpenSpec.ofChange recordKeepsSpec)) recordKeepsCard

/-- THE TIED CARD OF 'shelfmarklaw04.RecordAreas'. -/
def recordAreasCard : Claim7 := { stood := { row := recordAreasRow, standIns := [], harness := (true, "1387506f5e06ffea3a66f3dced7b306cf36551a5d7a22201a43aa6f468224a34"), looks := false }, kinds := [], alts := [], laidByText := true, laidKinds := [.data, .pinned], laidTests := true, laidLooks := .later }
def RecordAreasCardSaid : Prop := Claim7.holds Tryd.pinned (.plain (OpenSpec.ofChange recordAreasSpec)) recordAreasCard

/-- THE TIED CARD OF 'shelfmarklaw04.RecordFinds'. -/
def recordFindsCard : Claim7 := { stood := { row := recordFindsRow, standIns := [], harness := (true, "1387506f5e06ffea3a66f3dced7b306cf36551a5d7a22201a43aa6f468224a34"), looks := false }, kinds := [], alts := [], laidByText := true, laidKinds := [.data, .pinned], laidTests := true, laidLooks := .later }
def RecordFindsCardSaid : Prop := Claim7.holds Tryd.pinned (.plain (OpenSpec.ofChange recordFindsSpec)) recordFindsCard

/-- THE SECOND FORM's CARD OF 'shelfmarklaw04.RecordShows'. -/
def recordShowsUptoCard : Claim7 := { stood := { row := recordShowsUptoRow, standIns := [], harness := (true, "1387506f5e06ffea3a66f3dced7b306cf36551a5d7a22201a43aa6f468224a34"), looks := false }, kinds := [], alts := [], laidByText := true, laidKinds := [.data, .pinned], laidTests := true, laidLooks := .later }
def RecordShowsUptoCardSaid : Prop := Claim7.holds Tryd.pinned (.plain (OpenSpec.upto recordShowsSpec)) recordShowsUptoCard

/-- THE SECOND FORM's CARD OF 'shelfmarklaw04.RecordOrder'. -/
def recordOrderUptoCard : Claim7 := { stood := { row := recordOrderUptoRow, standIns := [], harness := (true, "1387506f5e06ffea3a66f3dced7b306cf36551a5d7a22201a43aa6f468224a34"), looks := false }, kinds := [], alts := [], laidByText := true, laidKinds := [.data, .pinned], laidTests := true, laidLooks := .later }
def RecordOrderUptoCardSaid : Prop := Claim7.holds Tryd.pinned (.plain (OpenSpec.upto recordOrderSpec)) recordOrderUptoCard

/-- THE SECOND FORM's CARD OF 'shelfmarklaw04.RecordKeeps'. -/
def recordKeepsUptoCard : Claim7 := { stood := { row := recordKeepsUptoRow, standIns := [], harness := (true, "1387506f5e06ffea3a66f3dced7b306cf36551a5d7a22201a43aa6f468224a34"), looks := false }, kinds := [], alts := [], laidByText := true, laidKinds := [.data, .pinned], laidTests := true, laidLooks := .later }
def RecordKeepsUptoCardSaid : Prop := Claim7.holds Tryd.pinned (.plain (OpenSpec.upto recordKeepsSpec)) recordKeepsUptoCard

/-- THE SECOND FORM's CARD OF 'shelfmarklaw04.RecordAreas'. -/
def recordAreasUptoCard : Claim7 := { stood := { row := recordAreasUptoRow, standIns := [], harness := (true, "1387506f5e06ffea3a66f3dced7b306cf36551a5d7a22201a43aa6f468224a34"), looks := false }, kinds := [], alts := [], laidByText := true, laidKinds := [.data, .pinned], laidTests := true, laidLooks := .later }
def RecordAreasUptoCardSaid : Prop := Claim7.holds Tryd.pinned (.plain (OpenSpec.upto recordAreasSpec)) recordAreasUptoCard

/-- THE SECOND FORM's CARD OF 'shelfmarklaw04.RecordFinds'. -/
def recordFindsUptoCard : Claim7 := { stood := { row := recordFindsUptoRow, standIns := [], harness := (true, "1387506f5e06ffea3a66f3dced7b306cf36551a5d7a22201a43aa6f468224a34"), looks := false }, kinds := [], alts := [], laidByText := true, laidKinds := [.data, .pinned], laidTests := true, laidLooks := .later }
def RecordFindsUptoCardSaid : Prop := Claim7.holds Tryd.pinned (.plain (OpenSpec.upto recordFindsSpec)) recordFindsUptoCard
end Rows
end Go.Proofs.YtieifhjjjlmkbaaDoor
