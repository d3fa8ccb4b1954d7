/-
  DERIVED. GIVEN WITH THE SEED: THE CARDS: each row of YtckjakojllcdoaaGreatDoorRows.lean that lists a variable, with what it lists TIED to the program's text (the seventh form; the later family's looks); each row that meets fmt, with fmt's text TOLD by the authors' own Lean function (tested against real Go, not proved from fmt's source: count such statements apart). THE CARD IS WHAT COUNTS. Prove the row's statement (the work); the ties are given (YtckjakojllcdoaaGreatDoorTie.lean); close each card by the builder's one call (the guide's Derived/Test/ToyasCard.lean, 'card_holds'). Laid BY PROGRAM, IN A SANDBOX (cutbox-door.mjs). By AI agents, Wed Nov 11 2026. No macro, syntax, notation, axiom, sorry.
-/
import Derived.Test.YtckjakojllcdoaaGreatDoorRows
import GoSem.ClaimSeven
namespace Go.Proofs.YtckjakojllcdoaaGreatDoor
namespace Rows

/-- THE TIED CARD OF 'linkworklaw21.PrintLinkages'. -/
def printLinkagesCard : Claim7 := { stood := { row := printLinkagesRow, standIns := [], harness := (true, "201c9aea44f800121861fea96ae91176d472b926dac03a7134fbd36df7072e6f"), looks := true }, kinds := [], alts := [], laidByText := true, laidKinds := [.data, .data, .data], laidTests := true, laidLooks := .later }
def PrintLinkagesCardSaid : Prop := Claim7.holds Tryz.pinned (.plain (OpenSpec.ofChange printLinkagesSpec)) printLinkagesCard

/-- THE TIED CARD OF 'linkworklaw21.PrintBodies'. -/
def printBodiesCard : Claim7 := { stood := { row := printBodiesRow, standIns := [], harness := (true, "201c9aea44f800121861fea96ae91176d472b926dac03a7134fbd36df7072e6f"), looks := true }, kinds := [], alts := [], laidByText := true, laidKinds := [.data, .data, .data], laidTests := true, laidLooks := .later }
def PrintBodiesCardSaid : Prop := Claim7.holds Tryz.pinned (.plain (OpenSpec.ofChange printBodiesSpec)) printBodiesCard

/-- THE TIED CARD OF 'linkworklaw21.PrintDiffers'. -/
def printDiffersCard : Claim7 := { stood := { row := printDiffersRow, standIns := [], harness := (true, "201c9aea44f800121861fea96ae91176d472b926dac03a7134fbd36df7072e6f"), looks := true }, kinds := [], alts := [], laidByText := true, laidKinds := [.data, .data, .data], laidTests := true, laidLooks := .later }
def PrintDiffersCardSaid : Prop := Claim7.holds Tryz.pinned (.plain (OpenSpec.ofChange printDiffersSpec)) printDiffersCard

/-- THE TIED CARD OF 'linkworklaw21.PrintLines'. -/
def printLinesCard : Claim7 := { stood := { row := printLinesRow, standIns := [], harness := (true, "201c9aea44f800121861fea96ae91176d472b926dac03a7134fbd36df7072e6f"), looks := true }, kinds := [], alts := [], laidByText := true, laidKinds := [.data, .data, .data], laidTests := true, laidLooks := .later }
def PrintLinesCardSaid : Prop := Claim7.holds Tryz.pinned (.plain (OpenSpec.ofChange printLinesSpec)) printLinesCard

/-- THE SECOND FORM's CARD OF 'linkworklaw21.PrintLinkages'. -/
def printLinkagesUptoCard : Claim7 := { stood := { row := printLinkagesUptoRow, standIns := [], harness := (true, "201c9aea44f800121861fea96ae91176d472b926dac03a7134fbd36df7072e6f"), looks := true }, kinds := [], alts := [], laidByText := true, laidKinds := [.data, .data, .data], laidTests := true, laidLooks := .later }
def PrintLinkagesUptoCardSaid : Prop := Claim7.holds Tryz.pinned (.plain (OpenSpec.upto printLinkagesSpec)) printLinkagesUptoCard

/-- THE SECOND FORM's CARD OF 'linkworklaw21.PrintBodies'. -/
def printBodiesUptoCard : Claim7 := { stood := { row := printBodiesUptoRow, standIns := [], harness := (true, "201c9aea44f800121861fea96ae91176d472b926dac03a7134fbd36df7072e6f"), looks := true }, kinds := [], alts := [], laidByText := true, laidKinds := [.data, .data, .data], laidTests := true, laidLooks := .later }
def PrintBodiesUptoCardSaid : Prop := Claim7.holds Tryz.pinned (.plain (OpenSpec.upto printBodiesSpec)) printBodiesUptoCard

/-- THE SECOND FORM's CARD OF 'linkworklaw21.PrintDiffers'. -/
def printDiffersUptoCard : Claim7 := { stood := { row := printDiffersUptoRow, standIns := [], harness := (true, "201c9aea44f800121861fea96ae91176d472b926dac03a7134fbd36df7072e6f"), looks := true }, kinds := [], alts := [], laidByText := true, laidKinds := [.data, .data, .data], laidTests := true, laidLooks := .later }
def PrintDiffersUptoCardSaid : Prop := Claim7.holds Tryz.pinned (.plain (OpenSpec.upto printDiffersSpec)) printDiffersUptoCard

/-- THE SECOND FORM's CARD OF 'linkworklaw21.PrintLines'. -/
def printLinesUptoCard : Claim7 := { stood := { row := printLinesUptoRow, standIns := [], harness := (true, "201c9aea44f800121861fea96ae91176d472b926dac03a7134fbd36df7072e6f"), looks := true }, kinds := [], alts := [], laidByText := true, laidKinds := [.data, .data, .data], laidTests := true, laidLooks := .later }
def PrintLinesUptoCardSaid : Prop := Claim7.holds Tryz.pinned (.plain (OpenSpec.upto printLinesSpec)) printLinesUptoCard
end Rows
end Go.Proofs.YtckjakojllcdoaaGreatDoor
