/-
  DERIVED. GIVEN WITH THE SEED: THE CARDS: each row of YtoiijifnfdgfpaaGreatDoorRows.lean that lists a variable, with what it lists TIED to the program's text (the seventh form; the later family's looks); each row that meets fmt, with fmt's text TOLD by the authors' own Lean function (tested against real Go, not proved from fmt's source: count such statements apart). THE CARD IS WHAT COUNTS. Prove the row's statement (the work); the ties are given (YtoiijifnfdgfpaaGreatDoorTie.lean); close each card by the builder's one call (the guide's Derived/Test/ToyasCard.lean, 'card_holds'). Laid BY PROGRAM, IN A SANDBOX (cutbox-door.mjs). By AI agents, Wed Nov 11 2026. No macro, syntax, notation, axiom, sorry.
-/
import Derived.Test.YtoiijifnfdgfpaaGreatDoorRows
import GoSem.ClaimSeven
namespace Go.Proofs.YtoiijifnfdgfpaaGreatDoor
namespace Rows

/-- THE TIED CARD OF 'linkworklaw59.InterchangePacks'. -/
def interchangePacksCard : Claim7 := { stood := { row := interchangePacksRow, standIns := [], harness := (true, "200edb51a8936ad95a80cea7727775169c3359e65f46b06836ac62772c9ebab1"), looks := true }, kinds := [], alts := [], laidByText := true, laidKinds := [.data, .data, .data], laidTests := true, laidLooks := .later }
def InterchangePacksCardSaid : Prop := Claim7.holds Tryz.pinned (.plain (OpenSpec.ofChange interchangePacksSpec)) interchangePacksCard

/-- THE TIED CARD OF 'linkworklaw20.ParseLinkages'. -/
def parseLinkagesCard : Claim7 := { stood := { row := parseLinkagesRow, standIns := [], harness := (true, "200edb51a8936ad95a80cea7727775169c3359e65f46b06836ac62772c9ebab1"), looks := true }, kinds := [], alts := [], laidByText := true, laidKinds := [.data, .data, .data, .data, .sentinel, .sentinel, .pinned], laidTests := true, laidLooks := .later }
def ParseLinkagesCardSaid : Prop := Claim7.holds Tryz.pinned (.plain (OpenSpec.ofChange parseLinkagesSpec)) parseLinkagesCard

/-- THE TIED CARD OF 'linkworklaw20.ParseChecked'. -/
def parseCheckedCard : Claim7 := { stood := { row := parseCheckedRow, standIns := [], harness := (true, "200edb51a8936ad95a80cea7727775169c3359e65f46b06836ac62772c9ebab1"), looks := true }, kinds := [], alts := [], laidByText := true, laidKinds := [.data, .data, .data, .data, .sentinel, .sentinel, .pinned], laidTests := true, laidLooks := .later }
def ParseCheckedCardSaid : Prop := Claim7.holds Tryz.pinned (.plain (OpenSpec.ofChange parseCheckedSpec)) parseCheckedCard

/-- THE TIED CARD OF 'linkworklaw20.ParseBlanks'. -/
def parseBlanksCard : Claim7 := { stood := { row := parseBlanksRow, standIns := [], harness := (true, "200edb51a8936ad95a80cea7727775169c3359e65f46b06836ac62772c9ebab1"), looks := true }, kinds := [], alts := [], laidByText := true, laidKinds := [.data, .data, .data, .data, .sentinel, .sentinel, .pinned], laidTests := true, laidLooks := .later }
def ParseBlanksCardSaid : Prop := Claim7.holds Tryz.pinned (.plain (OpenSpec.ofChange parseBlanksSpec)) parseBlanksCard

/-- THE TIED CARD OF 'linkworklaw20.ParseOrders'. -/
def parseOrdersCard : Claim7 := { stood := { row := parseOrdersRow, standIns := [], harness := (true, "200edb51a8936ad95a80cea7727775169c3359e65f46b06836ac62772c9ebab1"), looks := true }, kinds := [], alts := [], laidByText := true, laidKinds := [.data, .data, .data, .data, .sentinel, .sentinel, .pinned], laidTests := true, laidLooks := .later }
def ParseOrdersCardSaid : Prop := Claim7.holds Tryz.pinned (.plain (OpenSpec.ofChange parseOrdersSpec)) parseOrdersCard

/-- THE TIED CARD OF 'linkworklaw20.ParseBodies'. -/
def parseBodiesCard : Claim7 := { stood := { row := parseBodiesRow, standIns := [], harness := (true, "200edb51a8936ad95a80cea7727775169c3359e65f46b06836ac62772c9ebab1"), looks := true }, kinds := [], alts := [], laidByText := true, laidKinds := [.data, .data, .data, .data, .sentinel, .sentinel, .pinned], laidTests := true, laidLooks := .later }
def ParseBodiesCardSaid : Prop := Claim7.holds Tryz.pinned (.plain (OpenSpec.ofChange parseBodiesSpec)) parseBodiesCard

/-- THE TIED CARD OF 'linkworklaw20.ParseEnds'. -/
def parseEndsCard : Claim7 := { stood := { row := parseEndsRow, standIns := [], harness := (true, "200edb51a8936ad95a80cea7727775169c3359e65f46b06836ac62772c9ebab1"), looks := true }, kinds := [], alts := [], laidByText := true, laidKinds := [.data, .data, .data, .data, .sentinel, .sentinel, .pinned], laidTests := true, laidLooks := .later }
def ParseEndsCardSaid : Prop := Claim7.holds Tryz.pinned (.plain (OpenSpec.ofChange parseEndsSpec)) parseEndsCard

/-- THE TIED CARD OF 'linkworklaw21.PrintAlone'. -/
def printAloneCard : Claim7 := { stood := { row := printAloneRow, standIns := [], harness := (true, "200edb51a8936ad95a80cea7727775169c3359e65f46b06836ac62772c9ebab1"), looks := true }, kinds := [], alts := [], laidByText := true, laidKinds := [.data, .data, .data, .data, .sentinel, .sentinel, .pinned], laidTests := true, laidLooks := .later }
def PrintAloneCardSaid : Prop := Claim7.holds Tryz.pinned (.plain (OpenSpec.ofChange printAloneSpec)) printAloneCard

/-- THE TIED CARD OF 'linkworklaw21.PrintReturns'. -/
def printReturnsCard : Claim7 := { stood := { row := printReturnsRow, standIns := [], harness := (true, "200edb51a8936ad95a80cea7727775169c3359e65f46b06836ac62772c9ebab1"), looks := true }, kinds := [], alts := [], laidByText := true, laidKinds := [.data, .data, .data, .data, .sentinel, .sentinel, .pinned], laidTests := true, laidLooks := .later }
def PrintReturnsCardSaid : Prop := Claim7.holds Tryz.pinned (.plain (OpenSpec.ofChange printReturnsSpec)) printReturnsCard

/-- THE SECOND FORM's CARD OF 'linkworklaw59.InterchangePacks'. -/
def interchangePacksUptoCard : Claim7 := { stood := { row := interchangePacksUptoRow, standIns := [], harness := (true, "200edb51a8936ad95a80cea7727775169c3359e65f46b06836ac62772c9ebab1"), looks := true }, kinds := [], alts := [], laidByText := true, laidKinds := [.data, .data, .data], laidTests := true, laidLooks := .later }
def InterchangePacksUptoCardSaid : Prop := Claim7.holds Tryz.pinned (.plain (OpenSpec.upto interchangePacksSpec)) interchangePacksUptoCard

/-- THE SECOND FORM's CARD OF 'linkworklaw20.ParseLinkages'. -/
def parseLinkagesUptoCard : Claim7 := { stood := { row := parseLinkagesUptoRow, standIns := [], harness := (true, "200edb51a8936ad95a80cea7727775169c3359e65f46b06836ac62772c9ebab1"), looks := true }, kinds := [], alts := [], laidByText := true, laidKinds := [.data, .data, .data, .data, .sentinel, .sentinel, .pinned], laidTests := true, laidLooks := .later }
def ParseLinkagesUptoCardSaid : Prop := Claim7.holds Tryz.pinned (.plain (OpenSpec.upto parseLinkagesSpec)) parseLinkagesUptoCard

/-- THE SECOND FORM's CARD OF 'linkworklaw20.ParseChecked'. -/
def parseCheckedUptoCard : Claim7 := { stood := { row := parseCheckedUptoRow, standIns := [], harness := (true, "200edb51a8936ad95a80cea7727775169c3359e65f46b06836ac62772c9ebab1"), looks := true }, kinds := [], alts := [], laidByText := true, laidKinds := [.data, .data, .data, .data, .sentinel, .sentinel, .pinned], laidTests := true, laidLooks := .later }
def ParseCheckedUptoCardSaid : Prop := Claim7.holds Tryz.pinned (.plain (OpenSpec.upto parseCheckedSpec)) parseCheckedUptoCard

/-- THE SECOND FORM's CARD OF 'linkworklaw20.ParseBlanks'. -/
def parseBlanksUptoCard : Claim7 := { stood := { row := parseBlanksUptoRow, standIns := [], harness := (true, "200edb51a8936ad95a80cea7727775169c3359e65f46b06836ac62772c9ebab1"), looks := true }, kinds := [], alts := [], laidByText := true, laidKinds := [.data, .data, .data, .data, .sentinel, .sentinel, .pinned], laidTests := true, laidLooks := .later }
def ParseBlanksUptoCardSaid : Prop := Claim7.holds Tryz.pinned (.plain (OpenSpec.upto parseBlanksSpec)) parseBlanksUptoCard

/-- THE SECOND FORM's CARD OF 'linkworklaw20.ParseOrders'. -/
def parseOrdersUptoCard : Claim7 := { stood := { row := parseOrdersUptoRow, standIns := [], harness := (true, "200edb51a8936ad95a80cea7727775169c3359e65f46b06836ac62772c9ebab1"), looks := true }, kinds := [], alts := [], laidByText := true, laidKinds := [.data, .data, .data, .data, .sentinel, .sentinel, .pinned], laidTests := true, laidLooks := .later }
def ParseOrdersUptoCardSaid : Prop := Claim7.holds Tryz.pinned (.plain (OpenSpec.upto parseOrdersSpec)) parseOrdersUptoCard

/-- THE SECOND FORM's CARD OF 'linkworklaw20.ParseBodies'. -/
def parseBodiesUptoCard : Claim7 := { stood := { row := parseBodiesUptoRow, standIns := [], harness := (true, "200edb51a8936ad95a80cea7727775169c3359e65f46b06836ac62772c9ebab1"), looks := true }, kinds := [], alts := [], laidByText := true, laidKinds := [.data, .data, .data, .data, .sentinel, .sentinel, .pinned], laidTests := true, laidLooks := .later }
def ParseBodiesUptoCardSaid : Prop := Claim7.holds Tryz.pinned (.plain (OpenSpec.upto parseBodiesSpec)) parseBodiesUptoCard

/-- THE SECOND FORM's CARD OF 'linkworklaw20.ParseEnds'. -/
def parseEndsUptoCard : Claim7 := { stood := { row := parseEndsUptoRow, standIns := [], harness := (true, "200edb51a8936ad95a80cea7727775169c3359e65f46b06836ac62772c9ebab1"), looks := true }, kinds := [], alts := [], laidByText := true, laidKinds := [.data, .data, .data, .data, .sentinel, .sentinel, .pinned], laidTests := true, laidLooks := .later }
def ParseEndsUptoCardSaid : Prop := Claim7.holds Tryz.pinned (.plain (OpenSpec.upto parseEndsSpec)) parseEndsUptoCard

/-- THE SECOND FORM's CARD OF 'linkworklaw21.PrintAlone'. -/
def printAloneUptoCard : Claim7 := { stood := { row := printAloneUptoRow, standIns := [], harness := (true, "200edb51a8936ad95a80cea7727775169c3359e65f46b06836ac62772c9ebab1"), looks := true }, kinds := [], alts := [], laidByText := true, laidKinds := [.data, .data, .data, .data, .sentinel, .sentinel, .pinned], laidTests := true, laidLooks := .later }
def PrintAloneUptoCardSaid : Prop := Claim7.holds Tryz.pinned (.plain (OpenSpec.upto printAloneSpec)) printAloneUptoCard

/-- THE SECOND FORM's CARD OF 'linkworklaw21.PrintReturns'. -/
def printReturnsUptoCard : Claim7 := { stood := { row := printReturnsUptoRow, standIns := [], harness := (true, "200edb51a8936ad95a80cea7727775169c3359e65f46b06836ac62772c9ebab1"), looks := true }, kinds := [], alts := [], laidByText := true, laidKinds := [.data, .data, .data, .data, .sentinel, .sentinel, .pinned], laidTests := true, laidLooks := .later }
def PrintReturnsUptoCardSaid : Prop := Claim7.holds Tryz.pinned (.plain (OpenSpec.upto printReturnsSpec)) printReturnsUptoCard
end Rows
end Go.Proofs.YtoiijifnfdgfpaaGreatDoor
