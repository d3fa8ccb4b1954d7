/-
  DERIVED. GIVEN WITH THE SEED: THE CARDS: each row of YtndhgcfajlalhaaGreatDoorRows.lean that lists a variable, with what it lists TIED to the program's text (the seventh form; the later family's looks); each row that meets fmt, with fmt's text TOLD by the authors' own Lean function (tested against real Go, not proved from fmt's source: count such statements apart). THE CARD IS WHAT COUNTS. Prove the row's statement (the work); the ties are given (YtndhgcfajlalhaaGreatDoorTie.lean); close each card by the builder's one call (the guide's Derived/Test/ToyasCard.lean, 'card_holds'). Laid BY PROGRAM, IN A SANDBOX (cutbox-door.mjs). By AI agents, Wed Nov 11 2026. No macro, syntax, notation, axiom, sorry.
-/
import Derived.Test.YtndhgcfajlalhaaGreatDoorRows
import GoSem.ClaimSeven
namespace Go.Proofs.YtndhgcfajlalhaaGreatDoor
namespace Rows

/-- THE TIED CARD OF 'linkworklaw57.EditReplays'. -/
def editReplaysCard : Claim7 := { stood := { row := editReplaysRow, standIns := [], harness := (true, "ba9c51797ac99853f604004a98fa0ce6c40f7d5ad81348bb47e897f6a49f6f1d"), looks := true }, kinds := [], alts := [], laidByText := true, laidKinds := [.data, .data, .data, .data, .sentinel, .sentinel, .pinned], laidTests := true, laidLooks := .later }
def EditReplaysCardSaid : Prop := Claim7.holds Tryz.pinned (.plain (OpenSpec.ofChange editReplaysSpec)) editReplaysCard

/-- THE TIED CARD OF 'linkworklaw57.EditCancels'. -/
def editCancelsCard : Claim7 := { stood := { row := editCancelsRow, standIns := [], harness := (true, "ba9c51797ac99853f604004a98fa0ce6c40f7d5ad81348bb47e897f6a49f6f1d"), looks := true }, kinds := [], alts := [], laidByText := true, laidKinds := [.data, .data, .data, .data, .sentinel, .sentinel, .pinned], laidTests := true, laidLooks := .later }
def EditCancelsCardSaid : Prop := Claim7.holds Tryz.pinned (.plain (OpenSpec.ofChange editCancelsSpec)) editCancelsCard

/-- THE TIED CARD OF 'linkworklaw57.EditBack'. -/
def editBackCard : Claim7 := { stood := { row := editBackRow, standIns := [], harness := (true, "ba9c51797ac99853f604004a98fa0ce6c40f7d5ad81348bb47e897f6a49f6f1d"), looks := true }, kinds := [], alts := [], laidByText := true, laidKinds := [.data, .data, .data, .data, .sentinel, .sentinel, .pinned], laidTests := true, laidLooks := .later }
def EditBackCardSaid : Prop := Claim7.holds Tryz.pinned (.plain (OpenSpec.ofChange editBackSpec)) editBackCard

/-- THE TIED CARD OF 'linkworklaw57.EditRefuses'. -/
def editRefusesCard : Claim7 := { stood := { row := editRefusesRow, standIns := [], harness := (true, "ba9c51797ac99853f604004a98fa0ce6c40f7d5ad81348bb47e897f6a49f6f1d"), looks := true }, kinds := [], alts := [], laidByText := true, laidKinds := [.data, .data, .data, .data, .sentinel, .sentinel, .pinned], laidTests := true, laidLooks := .later }
def EditRefusesCardSaid : Prop := Claim7.holds Tryz.pinned (.plain (OpenSpec.ofChange editRefusesSpec)) editRefusesCard

/-- THE TIED CARD OF 'linkworklaw57.EditNil'. -/
def editNilCard : Claim7 := { stood := { row := editNilRow, standIns := [], harness := (true, "ba9c51797ac99853f604004a98fa0ce6c40f7d5ad81348bb47e897f6a49f6f1d"), looks := true }, kinds := [], alts := [], laidByText := true, laidKinds := [.data, .data, .data, .data, .sentinel, .sentinel, .pinned], laidTests := true, laidLooks := .later }
def EditNilCardSaid : Prop := Claim7.holds Tryz.pinned (.plain (OpenSpec.ofChange editNilSpec)) editNilCard

/-- THE SECOND FORM's CARD OF 'linkworklaw57.EditReplays'. -/
def editReplaysUptoCard : Claim7 := { stood := { row := editReplaysUptoRow, standIns := [], harness := (true, "ba9c51797ac99853f604004a98fa0ce6c40f7d5ad81348bb47e897f6a49f6f1d"), looks := true }, kinds := [], alts := [], laidByText := true, laidKinds := [.data, .data, .data, .data, .sentinel, .sentinel, .pinned], laidTests := true, laidLooks := .later }
def EditReplaysUptoCardSaid : Prop := Claim7.holds Tryz.pinned (.plain (OpenSpec.upto editReplaysSpec)) editReplaysUptoCard

/-- THE SECOND FORM's CARD OF 'linkworklaw57.EditCancels'. -/
def editCancelsUptoCard : Claim7 := { stood := { row := editCancelsUptoRow, standIns := [], harness := (true, "ba9c51797ac99853f604004a98fa0ce6c40f7d5ad81348bb47e897f6a49f6f1d"), looks := true }, kinds := [], alts := [], laidByText := true, laidKinds := [.data, .data, .data, .data, .sentinel, .sentinel, .pinned], laidTests := true, laidLooks := .later }
def EditCancelsUptoCardSaid : Prop := Claim7.holds Tryz.pinned (.plain (OpenSpec.upto editCancelsSpec)) editCancelsUptoCard

/-- THE SECOND FORM's CARD OF 'linkworklaw57.EditBack'. -/
def editBackUptoCard : Claim7 := { stood := { row := editBackUptoRow, standIns := [], harness := (true, "ba9c51797ac99853f604004a98fa0ce6c40f7d5ad81348bb47e897f6a49f6f1d"), looks := true }, kinds := [], alts := [], laidByText := true, laidKinds := [.data, .data, .data, .data, .sentinel, .sentinel, .pinned], laidTests := true, laidLooks := .later }
def EditBackUptoCardSaid : Prop := Claim7.holds Tryz.pinned (.plain (OpenSpec.upto editBackSpec)) editBackUptoCard

/-- THE SECOND FORM's CARD OF 'linkworklaw57.EditRefuses'. -/
def editRefusesUptoCard : Claim7 := { stood := { row := editRefusesUptoRow, standIns := [], harness := (true, "ba9c51797ac99853f604004a98fa0ce6c40f7d5ad81348bb47e897f6a49f6f1d"), looks := true }, kinds := [], alts := [], laidByText := true, laidKinds := [.data, .data, .data, .data, .sentinel, .sentinel, .pinned], laidTests := true, laidLooks := .later }
def EditRefusesUptoCardSaid : Prop := Claim7.holds Tryz.pinned (.plain (OpenSpec.upto editRefusesSpec)) editRefusesUptoCard

/-- THE SECOND FORM's CARD OF 'linkworklaw57.EditNil'. -/
def editNilUptoCard : Claim7 := { stood := { row := editNilUptoRow, standIns := [], harness := (true, "ba9c51797ac99853f604004a98fa0ce6c40f7d5ad81348bb47e897f6a49f6f1d"), looks := true }, kinds := [], alts := [], laidByText := true, laidKinds := [.data, .data, .data, .data, .sentinel, .sentinel, .pinned], laidTests := true, laidLooks := .later }
def EditNilUptoCardSaid : Prop := Claim7.holds Tryz.pinned (.plain (OpenSpec.upto editNilSpec)) editNilUptoCard
end Rows
end Go.Proofs.YtndhgcfajlalhaaGreatDoor
