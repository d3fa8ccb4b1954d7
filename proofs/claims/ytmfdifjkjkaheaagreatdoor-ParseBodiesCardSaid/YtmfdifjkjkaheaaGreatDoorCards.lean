/-
  DERIVED. GIVEN WITH THE SEED: THE CARDS: each row of YtmfdifjkjkaheaaGreatDoorRows.lean that lists a variable, with what it lists TIED to the program's text (the seventh form; the later family's looks); each row that meets fmt, with fmt's text TOLD by the authors' own Lean function (tested against real Go, not proved from fmt's source: count such statements apart). THE CARD IS WHAT COUNTS. Prove the row's statement (the work); the ties are given (YtmfdifjkjkaheaaGreatDoorTie.lean); close each card by the builder's one call (the guide's Derived/Test/ToyasCard.lean, 'card_holds'). Laid BY PROGRAM, IN A SANDBOX (cutbox-door.mjs). By AI agents, Wed Nov 11 2026. No macro, syntax, notation, axiom, sorry.
-/
import Derived.Test.YtmfdifjkjkaheaaGreatDoorRows
import GoSem.ClaimSeven
namespace Go.Proofs.YtmfdifjkjkaheaaGreatDoor
namespace Rows

/-- THE TIED CARD OF 'linkworklaw59.InterchangePacks'. -/
def interchangePacksCard : Claim7 := { stood := { row := interchangePacksRow, standIns := [], harness := (true, "35f6fbfeade18506b3cc00ebf680fdadd0e328f201b4ad9c64bbcd0daec6db3a"), looks := true }, kinds := [], alts := [], laidByText := true, laidKinds := [.data, .data, .data], laidTests := true, laidLooks := .later }
def InterchangePacksCardSaid : Prop := Claim7.holds Tryz.pinned (.plain (OpenSpec.ofChange interchangePacksSpec)) interchangePacksCard

/-- THE TIED CARD OF 'linkworklaw20.ParseLinkages'. -/
def parseLinkagesCard : Claim7 := { stood := { row := parseLinkagesRow, standIns := [], harness := (true, "35f6fbfeade18506b3cc00ebf680fdadd0e328f201b4ad9c64bbcd0daec6db3a"), looks := true }, kinds := [], alts := [], laidByText := true, laidKinds := [.data, .data, .data, .data, .sentinel, .sentinel, .pinned], laidTests := true, laidLooks := .later }
def ParseLinkagesCardSaid : Prop := Claim7.holds Tryz.pinned (.plain (OpenSpec.ofChange parseLinkagesSpec)) parseLinkagesCard

/-- THE TIED CARD OF 'linkworklaw20.ParseBodies'. -/
def parseBodiesCard : Claim7 := { stood := { row := parseBodiesRow, standIns := [], harness := (true, "35f6fbfeade18506b3cc00ebf680fdadd0e328f201b4ad9c64bbcd0daec6db3a"), looks := true }, kinds := [], alts := [], laidByText := true, laidKinds := [.data, .data, .data, .data, .sentinel, .sentinel, .pinned], laidTests := true, laidLooks := .later }
def ParseBodiesCardSaid : Prop := Claim7.holds Tryz.pinned (.plain (OpenSpec.ofChange parseBodiesSpec)) parseBodiesCard

/-- THE TIED CARD OF 'linkworklaw59.InterchangeOnly'. -/
def interchangeOnlyCard : Claim7 := { stood := { row := interchangeOnlyRow, standIns := [], harness := (true, "35f6fbfeade18506b3cc00ebf680fdadd0e328f201b4ad9c64bbcd0daec6db3a"), looks := true }, kinds := [], alts := [], laidByText := true, laidKinds := [.data, .data, .data, .data, .sentinel, .sentinel, .pinned], laidTests := true, laidLooks := .later }
def InterchangeOnlyCardSaid : Prop := Claim7.holds Tryz.pinned (.plain (OpenSpec.ofChange interchangeOnlySpec)) interchangeOnlyCard

/-- THE TIED CARD OF 'linkworklaw59.InterchangeGuards'. -/
def interchangeGuardsCard : Claim7 := { stood := { row := interchangeGuardsRow, standIns := [], harness := (true, "35f6fbfeade18506b3cc00ebf680fdadd0e328f201b4ad9c64bbcd0daec6db3a"), looks := true }, kinds := [], alts := [], laidByText := true, laidKinds := [.data, .data, .data, .data, .sentinel, .sentinel, .pinned], laidTests := true, laidLooks := .later }
def InterchangeGuardsCardSaid : Prop := Claim7.holds Tryz.pinned (.plain (OpenSpec.ofChange interchangeGuardsSpec)) interchangeGuardsCard

/-- THE TIED CARD OF 'linkworklaw59.InterchangeUnpacks'. -/
def interchangeUnpacksCard : Claim7 := { stood := { row := interchangeUnpacksRow, standIns := [], harness := (true, "35f6fbfeade18506b3cc00ebf680fdadd0e328f201b4ad9c64bbcd0daec6db3a"), looks := true }, kinds := [], alts := [], laidByText := true, laidKinds := [.data, .data, .data, .data, .sentinel, .sentinel, .pinned], laidTests := true, laidLooks := .later }
def InterchangeUnpacksCardSaid : Prop := Claim7.holds Tryz.pinned (.plain (OpenSpec.ofChange interchangeUnpacksSpec)) interchangeUnpacksCard

/-- THE TIED CARD OF 'linkworklaw59.InterchangeReturns'. -/
def interchangeReturnsCard : Claim7 := { stood := { row := interchangeReturnsRow, standIns := [], harness := (true, "35f6fbfeade18506b3cc00ebf680fdadd0e328f201b4ad9c64bbcd0daec6db3a"), looks := true }, kinds := [], alts := [], laidByText := true, laidKinds := [.data, .data, .data, .data, .sentinel, .sentinel, .pinned], laidTests := true, laidLooks := .later }
def InterchangeReturnsCardSaid : Prop := Claim7.holds Tryz.pinned (.plain (OpenSpec.ofChange interchangeReturnsSpec)) interchangeReturnsCard

/-- THE TIED CARD OF 'linkworklaw57.EditApplies'. -/
def editAppliesCard : Claim7 := { stood := { row := editAppliesRow, standIns := [], harness := (true, "35f6fbfeade18506b3cc00ebf680fdadd0e328f201b4ad9c64bbcd0daec6db3a"), looks := true }, kinds := [], alts := [], laidByText := true, laidKinds := [.data, .data, .data, .data, .sentinel, .sentinel, .pinned], laidTests := true, laidLooks := .later }
def EditAppliesCardSaid : Prop := Claim7.holds Tryz.pinned (.plain (OpenSpec.ofChange editAppliesSpec)) editAppliesCard

/-- THE TIED CARD OF 'linkworklaw57.EditReplays'. -/
def editReplaysCard : Claim7 := { stood := { row := editReplaysRow, standIns := [], harness := (true, "35f6fbfeade18506b3cc00ebf680fdadd0e328f201b4ad9c64bbcd0daec6db3a"), looks := true }, kinds := [], alts := [], laidByText := true, laidKinds := [.data, .data, .data, .data, .sentinel, .sentinel, .pinned], laidTests := true, laidLooks := .later }
def EditReplaysCardSaid : Prop := Claim7.holds Tryz.pinned (.plain (OpenSpec.ofChange editReplaysSpec)) editReplaysCard

/-- THE TIED CARD OF 'linkworklaw57.EditCancels'. -/
def editCancelsCard : Claim7 := { stood := { row := editCancelsRow, standIns := [], harness := (true, "35f6fbfeade18506b3cc00ebf680fdadd0e328f201b4ad9c64bbcd0daec6db3a"), looks := true }, kinds := [], alts := [], laidByText := true, laidKinds := [.data, .data, .data, .data, .sentinel, .sentinel, .pinned], laidTests := true, laidLooks := .later }
def EditCancelsCardSaid : Prop := Claim7.holds Tryz.pinned (.plain (OpenSpec.ofChange editCancelsSpec)) editCancelsCard

/-- THE TIED CARD OF 'linkworklaw57.EditLogs'. -/
def editLogsCard : Claim7 := { stood := { row := editLogsRow, standIns := [], harness := (true, "35f6fbfeade18506b3cc00ebf680fdadd0e328f201b4ad9c64bbcd0daec6db3a"), looks := true }, kinds := [], alts := [], laidByText := true, laidKinds := [.data, .data, .data, .data, .sentinel, .sentinel, .pinned], laidTests := true, laidLooks := .later }
def EditLogsCardSaid : Prop := Claim7.holds Tryz.pinned (.plain (OpenSpec.ofChange editLogsSpec)) editLogsCard

/-- THE TIED CARD OF 'linkworklaw57.EditBack'. -/
def editBackCard : Claim7 := { stood := { row := editBackRow, standIns := [], harness := (true, "35f6fbfeade18506b3cc00ebf680fdadd0e328f201b4ad9c64bbcd0daec6db3a"), looks := true }, kinds := [], alts := [], laidByText := true, laidKinds := [.data, .data, .data, .data, .sentinel, .sentinel, .pinned], laidTests := true, laidLooks := .later }
def EditBackCardSaid : Prop := Claim7.holds Tryz.pinned (.plain (OpenSpec.ofChange editBackSpec)) editBackCard

/-- THE TIED CARD OF 'linkworklaw57.EditRefuses'. -/
def editRefusesCard : Claim7 := { stood := { row := editRefusesRow, standIns := [], harness := (true, "35f6fbfeade18506b3cc00ebf680fdadd0e328f201b4ad9c64bbcd0daec6db3a"), looks := true }, kinds := [], alts := [], laidByText := true, laidKinds := [.data, .data, .data, .data, .sentinel, .sentinel, .pinned], laidTests := true, laidLooks := .later }
def EditRefusesCardSaid : Prop := Claim7.holds Tryz.pinned (.plain (OpenSpec.ofChange editRefusesSpec)) editRefusesCard

/-- THE TIED CARD OF 'linkworklaw57.EditNil'. -/
def editNilCard : Claim7 := { stood := { row := editNilRow, standIns := [], harness := (true, "35f6fbfeade18506b3cc00ebf680fdadd0e328f201b4ad9c64bbcd0daec6db3a"), looks := true }, kinds := [], alts := [], laidByText := true, laidKinds := [.data, .data, .data, .data, .sentinel, .sentinel, .pinned], laidTests := true, laidLooks := .later }
def EditNilCardSaid : Prop := Claim7.holds Tryz.pinned (.plain (OpenSpec.ofChange editNilSpec)) editNilCard

/-- THE SECOND FORM's CARD OF 'linkworklaw59.InterchangePacks'. -/
def interchangePacksUptoCard : Claim7 := { stood := { row := interchangePacksUptoRow, standIns := [], harness := (true, "35f6fbfeade18506b3cc00ebf680fdadd0e328f201b4ad9c64bbcd0daec6db3a"), looks := true }, kinds := [], alts := [], laidByText := true, laidKinds := [.data, .data, .data], laidTests := true, laidLooks := .later }
def InterchangePacksUptoCardSaid : Prop := Claim7.holds Tryz.pinned (.plain (OpenSpec.upto interchangePacksSpec)) interchangePacksUptoCard

/-- THE SECOND FORM's CARD OF 'linkworklaw20.ParseLinkages'. -/
def parseLinkagesUptoCard : Claim7 := { stood := { row := parseLinkagesUptoRow, standIns := [], harness := (true, "35f6fbfeade18506b3cc00ebf680fdadd0e328f201b4ad9c64bbcd0daec6db3a"), looks := true }, kinds := [], alts := [], laidByText := true, laidKinds := [.data, .data, .data, .data, .sentinel, .sentinel, .pinned], laidTests := true, laidLooks := .later }
def ParseLinkagesUptoCardSaid : Prop := Claim7.holds Tryz.pinned (.plain (OpenSpec.upto parseLinkagesSpec)) parseLinkagesUptoCard

/-- THE SECOND FORM's CARD OF 'linkworklaw20.ParseBodies'. -/
def parseBodiesUptoCard : Claim7 := { stood := { row := parseBodiesUptoRow, standIns := [], harness := (true, "35f6fbfeade18506b3cc00ebf680fdadd0e328f201b4ad9c64bbcd0daec6db3a"), looks := true }, kinds := [], alts := [], laidByText := true, laidKinds := [.data, .data, .data, .data, .sentinel, .sentinel, .pinned], laidTests := true, laidLooks := .later }
def ParseBodiesUptoCardSaid : Prop := Claim7.holds Tryz.pinned (.plain (OpenSpec.upto parseBodiesSpec)) parseBodiesUptoCard

/-- THE SECOND FORM's CARD OF 'linkworklaw59.InterchangeOnly'. -/
def interchangeOnlyUptoCard : Claim7 := { stood := { row := interchangeOnlyUptoRow, standIns := [], harness := (true, "35f6fbfeade18506b3cc00ebf680fdadd0e328f201b4ad9c64bbcd0daec6db3a"), looks := true }, kinds := [], alts := [], laidByText := true, laidKinds := [.data, .data, .data, .data, .sentinel, .sentinel, .pinned], laidTests := true, laidLooks := .later }
def InterchangeOnlyUptoCardSaid : Prop := Claim7.holds Tryz.pinned (.plain (OpenSpec.upto interchangeOnlySpec)) interchangeOnlyUptoCard

/-- THE SECOND FORM's CARD OF 'linkworklaw59.InterchangeGuards'. -/
def interchangeGuardsUptoCard : Claim7 := { stood := { row := interchangeGuardsUptoRow, standIns := [], harness := (true, "35f6fbfeade18506b3cc00ebf680fdadd0e328f201b4ad9c64bbcd0daec6db3a"), looks := true }, kinds := [], alts := [], laidByText := true, laidKinds := [.data, .data, .data, .data, .sentinel, .sentinel, .pinned], laidTests := true, laidLooks := .later }
def InterchangeGuardsUptoCardSaid : Prop := Claim7.holds Tryz.pinned (.plain (OpenSpec.upto interchangeGuardsSpec)) interchangeGuardsUptoCard

/-- THE SECOND FORM's CARD OF 'linkworklaw59.InterchangeUnpacks'. -/
def interchangeUnpacksUptoCard : Claim7 := { stood := { row := interchangeUnpacksUptoRow, standIns := [], harness := (true, "35f6fbfeade18506b3cc00ebf680fdadd0e328f201b4ad9c64bbcd0daec6db3a"), looks := true }, kinds := [], alts := [], laidByText := true, laidKinds := [.data, .data, .data, .data, .sentinel, .sentinel, .pinned], laidTests := true, laidLooks := .later }
def InterchangeUnpacksUptoCardSaid : Prop := Claim7.holds Tryz.pinned (.plain (OpenSpec.upto interchangeUnpacksSpec)) interchangeUnpacksUptoCard

/-- THE SECOND FORM's CARD OF 'linkworklaw59.InterchangeReturns'. -/
def interchangeReturnsUptoCard : Claim7 := { stood := { row := interchangeReturnsUptoRow, standIns := [], harness := (true, "35f6fbfeade18506b3cc00ebf680fdadd0e328f201b4ad9c64bbcd0daec6db3a"), looks := true }, kinds := [], alts := [], laidByText := true, laidKinds := [.data, .data, .data, .data, .sentinel, .sentinel, .pinned], laidTests := true, laidLooks := .later }
def InterchangeReturnsUptoCardSaid : Prop := Claim7.holds Tryz.pinned (.plain (OpenSpec.upto interchangeReturnsSpec)) interchangeReturnsUptoCard

/-- THE SECOND FORM's CARD OF 'linkworklaw57.EditApplies'. -/
def editAppliesUptoCard : Claim7 := { stood := { row := editAppliesUptoRow, standIns := [], harness := (true, "35f6fbfeade18506b3cc00ebf680fdadd0e328f201b4ad9c64bbcd0daec6db3a"), looks := true }, kinds := [], alts := [], laidByText := true, laidKinds := [.data, .data, .data, .data, .sentinel, .sentinel, .pinned], laidTests := true, laidLooks := .later }
def EditAppliesUptoCardSaid : Prop := Claim7.holds Tryz.pinned (.plain (OpenSpec.upto editAppliesSpec)) editAppliesUptoCard

/-- THE SECOND FORM's CARD OF 'linkworklaw57.EditReplays'. -/
def editReplaysUptoCard : Claim7 := { stood := { row := editReplaysUptoRow, standIns := [], harness := (true, "35f6fbfeade18506b3cc00ebf680fdadd0e328f201b4ad9c64bbcd0daec6db3a"), looks := true }, kinds := [], alts := [], laidByText := true, laidKinds := [.data, .data, .data, .data, .sentinel, .sentinel, .pinned], laidTests := true, laidLooks := .later }
def EditReplaysUptoCardSaid : Prop := Claim7.holds Tryz.pinned (.plain (OpenSpec.upto editReplaysSpec)) editReplaysUptoCard

/-- THE SECOND FORM's CARD OF 'linkworklaw57.EditCancels'. -/
def editCancelsUptoCard : Claim7 := { stood := { row := editCancelsUptoRow, standIns := [], harness := (true, "35f6fbfeade18506b3cc00ebf680fdadd0e328f201b4ad9c64bbcd0daec6db3a"), looks := true }, kinds := [], alts := [], laidByText := true, laidKinds := [.data, .data, .data, .data, .sentinel, .sentinel, .pinned], laidTests := true, laidLooks := .later }
def EditCancelsUptoCardSaid : Prop := Claim7.holds Tryz.pinned (.plain (OpenSpec.upto editCancelsSpec)) editCancelsUptoCard

/-- THE SECOND FORM's CARD OF 'linkworklaw57.EditLogs'. -/
def editLogsUptoCard : Claim7 := { stood := { row := editLogsUptoRow, standIns := [], harness := (true, "35f6fbfeade18506b3cc00ebf680fdadd0e328f201b4ad9c64bbcd0daec6db3a"), looks := true }, kinds := [], alts := [], laidByText := true, laidKinds := [.data, .data, .data, .data, .sentinel, .sentinel, .pinned], laidTests := true, laidLooks := .later }
def EditLogsUptoCardSaid : Prop := Claim7.holds Tryz.pinned (.plain (OpenSpec.upto editLogsSpec)) editLogsUptoCard

/-- THE SECOND FORM's CARD OF 'linkworklaw57.EditBack'. -/
def editBackUptoCard : Claim7 := { stood := { row := editBackUptoRow, standIns := [], harness := (true, "35f6fbfeade18506b3cc00ebf680fdadd0e328f201b4ad9c64bbcd0daec6db3a"), looks := true }, kinds := [], alts := [], laidByText := true, laidKinds := [.data, .data, .data, .data, .sentinel, .sentinel, .pinned], laidTests := true, laidLooks := .later }
def EditBackUptoCardSaid : Prop := Claim7.holds Tryz.pinned (.plain (OpenSpec.upto editBackSpec)) editBackUptoCard

/-- THE SECOND FORM's CARD OF 'linkworklaw57.EditRefuses'. -/
def editRefusesUptoCard : Claim7 := { stood := { row := editRefusesUptoRow, standIns := [], harness := (true, "35f6fbfeade18506b3cc00ebf680fdadd0e328f201b4ad9c64bbcd0daec6db3a"), looks := true }, kinds := [], alts := [], laidByText := true, laidKinds := [.data, .data, .data, .data, .sentinel, .sentinel, .pinned], laidTests := true, laidLooks := .later }
def EditRefusesUptoCardSaid : Prop := Claim7.holds Tryz.pinned (.plain (OpenSpec.upto editRefusesSpec)) editRefusesUptoCard

/-- THE SECOND FORM's CARD OF 'linkworklaw57.EditNil'. -/
def editNilUptoCard : Claim7 := { stood := { row := editNilUptoRow, standIns := [], harness := (true, "35f6fbfeade18506b3cc00ebf680fdadd0e328f201b4ad9c64bbcd0daec6db3a"), looks := true }, kinds := [], alts := [], laidByText := true, laidKinds := [.data, .data, .data, .data, .sentinel, .sentinel, .pinned], laidTests := true, laidLooks := .later }
def EditNilUptoCardSaid : Prop := Claim7.holds Tryz.pinned (.plain (OpenSpec.upto editNilSpec)) editNilUptoCard
end Rows
end Go.Proofs.YtmfdifjkjkaheaaGreatDoor
