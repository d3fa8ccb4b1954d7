/-
  DERIVED. GIVEN WITH THE SEED: THE CARDS: each row of YtfilnhompchciaaGreatDoorRows.lean that lists a variable, with what it lists TIED to the program's text (the seventh form; the later family's looks); each row that meets fmt, with fmt's text TOLD by the authors' own Lean function (tested against real Go, not proved from fmt's source: count such statements apart). THE CARD IS WHAT COUNTS. Prove the row's statement (the work); the ties are given (YtfilnhompchciaaGreatDoorTie.lean); close each card by the builder's one call (the guide's Derived/Test/ToyasCard.lean, 'card_holds'). Laid BY PROGRAM, IN A SANDBOX (cutbox-door.mjs). By AI agents, Wed Nov 11 2026. No macro, syntax, notation, axiom, sorry.
-/
import Derived.Test.YtfilnhompchciaaGreatDoorRows
import GoSem.ClaimSeven
namespace Go.Proofs.YtfilnhompchciaaGreatDoor
namespace Rows

/-- THE TIED CARD OF 'linkworklaw59.InterchangePacks'. -/
def interchangePacksCard : Claim7 := { stood := { row := interchangePacksRow, standIns := [], harness := (true, "572df2fecab758eabf4d1d24e9675a7a0779f77d1f6876a7a7e592d2dbb58219"), looks := true }, kinds := [], alts := [], laidByText := true, laidKinds := [.data, .data, .data], laidTests := true, laidLooks := .later }
def InterchangePacksCardSaid : Prop := Claim7.holds Tryz.pinned (.plain (OpenSpec.ofChange interchangePacksSpec)) interchangePacksCard

/-- THE TIED CARD OF 'linkworklaw20.ParseLinkages'. -/
def parseLinkagesCard : Claim7 := { stood := { row := parseLinkagesRow, standIns := [], harness := (true, "572df2fecab758eabf4d1d24e9675a7a0779f77d1f6876a7a7e592d2dbb58219"), looks := true }, kinds := [], alts := [], laidByText := true, laidKinds := [.data, .data, .data, .data, .sentinel, .sentinel, .pinned], laidTests := true, laidLooks := .later }
def ParseLinkagesCardSaid : Prop := Claim7.holds Tryz.pinned (.plain (OpenSpec.ofChange parseLinkagesSpec)) parseLinkagesCard

/-- THE TIED CARD OF 'linkworklaw59.InterchangeOnly'. -/
def interchangeOnlyCard : Claim7 := { stood := { row := interchangeOnlyRow, standIns := [], harness := (true, "572df2fecab758eabf4d1d24e9675a7a0779f77d1f6876a7a7e592d2dbb58219"), looks := true }, kinds := [], alts := [], laidByText := true, laidKinds := [.data, .data, .data, .data, .sentinel, .sentinel, .pinned], laidTests := true, laidLooks := .later }
def InterchangeOnlyCardSaid : Prop := Claim7.holds Tryz.pinned (.plain (OpenSpec.ofChange interchangeOnlySpec)) interchangeOnlyCard

/-- THE TIED CARD OF 'linkworklaw59.InterchangeGuards'. -/
def interchangeGuardsCard : Claim7 := { stood := { row := interchangeGuardsRow, standIns := [], harness := (true, "572df2fecab758eabf4d1d24e9675a7a0779f77d1f6876a7a7e592d2dbb58219"), looks := true }, kinds := [], alts := [], laidByText := true, laidKinds := [.data, .data, .data, .data, .sentinel, .sentinel, .pinned], laidTests := true, laidLooks := .later }
def InterchangeGuardsCardSaid : Prop := Claim7.holds Tryz.pinned (.plain (OpenSpec.ofChange interchangeGuardsSpec)) interchangeGuardsCard

/-- THE TIED CARD OF 'linkworklaw59.InterchangeUnpacks'. -/
def interchangeUnpacksCard : Claim7 := { stood := { row := interchangeUnpacksRow, standIns := [], harness := (true, "572df2fecab758eabf4d1d24e9675a7a0779f77d1f6876a7a7e592d2dbb58219"), looks := true }, kinds := [], alts := [], laidByText := true, laidKinds := [.data, .data, .data, .data, .sentinel, .sentinel, .pinned], laidTests := true, laidLooks := .later }
def InterchangeUnpacksCardSaid : Prop := Claim7.holds Tryz.pinned (.plain (OpenSpec.ofChange interchangeUnpacksSpec)) interchangeUnpacksCard

/-- THE TIED CARD OF 'linkworklaw59.InterchangeReturns'. -/
def interchangeReturnsCard : Claim7 := { stood := { row := interchangeReturnsRow, standIns := [], harness := (true, "572df2fecab758eabf4d1d24e9675a7a0779f77d1f6876a7a7e592d2dbb58219"), looks := true }, kinds := [], alts := [], laidByText := true, laidKinds := [.data, .data, .data, .data, .sentinel, .sentinel, .pinned], laidTests := true, laidLooks := .later }
def InterchangeReturnsCardSaid : Prop := Claim7.holds Tryz.pinned (.plain (OpenSpec.ofChange interchangeReturnsSpec)) interchangeReturnsCard

/-- THE SECOND FORM's CARD OF 'linkworklaw59.InterchangePacks'. -/
def interchangePacksUptoCard : Claim7 := { stood := { row := interchangePacksUptoRow, standIns := [], harness := (true, "572df2fecab758eabf4d1d24e9675a7a0779f77d1f6876a7a7e592d2dbb58219"), looks := true }, kinds := [], alts := [], laidByText := true, laidKinds := [.data, .data, .data], laidTests := true, laidLooks := .later }
def InterchangePacksUptoCardSaid : Prop := Claim7.holds Tryz.pinned (.plain (OpenSpec.upto interchangePacksSpec)) interchangePacksUptoCard

/-- THE SECOND FORM's CARD OF 'linkworklaw20.ParseLinkages'. -/
def parseLinkagesUptoCard : Claim7 := { stood := { row := parseLinkagesUptoRow, standIns := [], harness := (true, "572df2fecab758eabf4d1d24e9675a7a0779f77d1f6876a7a7e592d2dbb58219"), looks := true }, kinds := [], alts := [], laidByText := true, laidKinds := [.data, .data, .data, .data, .sentinel, .sentinel, .pinned], laidTests := true, laidLooks := .later }
def ParseLinkagesUptoCardSaid : Prop := Claim7.holds Tryz.pinned (.plain (OpenSpec.upto parseLinkagesSpec)) parseLinkagesUptoCard

/-- THE SECOND FORM's CARD OF 'linkworklaw59.InterchangeOnly'. -/
def interchangeOnlyUptoCard : Claim7 := { stood := { row := interchangeOnlyUptoRow, standIns := [], harness := (true, "572df2fecab758eabf4d1d24e9675a7a0779f77d1f6876a7a7e592d2dbb58219"), looks := true }, kinds := [], alts := [], laidByText := true, laidKinds := [.data, .data, .data, .data, .sentinel, .sentinel, .pinned], laidTests := true, laidLooks := .later }
def InterchangeOnlyUptoCardSaid : Prop := Claim7.holds Tryz.pinned (.plain (OpenSpec.upto interchangeOnlySpec)) interchangeOnlyUptoCard

/-- THE SECOND FORM's CARD OF 'linkworklaw59.InterchangeGuards'. -/
def interchangeGuardsUptoCard : Claim7 := { stood := { row := interchangeGuardsUptoRow, standIns := [], harness := (true, "572df2fecab758eabf4d1d24e9675a7a0779f77d1f6876a7a7e592d2dbb58219"), looks := true }, kinds := [], alts := [], laidByText := true, laidKinds := [.data, .data, .data, .data, .sentinel, .sentinel, .pinned], laidTests := true, laidLooks := .later }
def InterchangeGuardsUptoCardSaid : Prop := Claim7.holds Tryz.pinned (.plain (OpenSpec.upto interchangeGuardsSpec)) interchangeGuardsUptoCard

/-- THE SECOND FORM's CARD OF 'linkworklaw59.InterchangeUnpacks'. -/
def interchangeUnpacksUptoCard : Claim7 := { stood := { row := interchangeUnpacksUptoRow, standIns := [], harness := (true, "572df2fecab758eabf4d1d24e9675a7a0779f77d1f6876a7a7e592d2dbb58219"), looks := true }, kinds := [], alts := [], laidByText := true, laidKinds := [.data, .data, .data, .data, .sentinel, .sentinel, .pinned], laidTests := true, laidLooks := .later }
def InterchangeUnpacksUptoCardSaid : Prop := Claim7.holds Tryz.pinned (.plain (OpenSpec.upto interchangeUnpacksSpec)) interchangeUnpacksUptoCard

/-- THE SECOND FORM's CARD OF 'linkworklaw59.InterchangeReturns'. -/
def interchangeReturnsUptoCard : Claim7 := { stood := { row := interchangeReturnsUptoRow, standIns := [], harness := (true, "572df2fecab758eabf4d1d24e9675a7a0779f77d1f6876a7a7e592d2dbb58219"), looks := true }, kinds := [], alts := [], laidByText := true, laidKinds := [.data, .data, .data, .data, .sentinel, .sentinel, .pinned], laidTests := true, laidLooks := .later }
def InterchangeReturnsUptoCardSaid : Prop := Claim7.holds Tryz.pinned (.plain (OpenSpec.upto interchangeReturnsSpec)) interchangeReturnsUptoCard
end Rows
end Go.Proofs.YtfilnhompchciaaGreatDoor
