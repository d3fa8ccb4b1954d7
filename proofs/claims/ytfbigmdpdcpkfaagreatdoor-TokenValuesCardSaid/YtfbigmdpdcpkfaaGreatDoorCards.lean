/-
  DERIVED. GIVEN WITH THE SEED: THE CARDS: each row of YtfbigmdpdcpkfaaGreatDoorRows.lean that lists a variable, with what it lists TIED to the program's text (the seventh form; the later family's looks); each row that meets fmt, with fmt's text TOLD by the authors' own Lean function (tested against real Go, not proved from fmt's source: count such statements apart). THE CARD IS WHAT COUNTS. Prove the row's statement (the work); the ties are given (YtfbigmdpdcpkfaaGreatDoorTie.lean); close each card by the builder's one call (the guide's Derived/Test/ToyasCard.lean, 'card_holds'). Laid BY PROGRAM, IN A SANDBOX (cutbox-door.mjs). By AI agents, Wed Nov 11 2026. No macro, syntax, notation, axiom, sorry.
-/
import Derived.Test.YtfbigmdpdcpkfaaGreatDoorRows
import GoSem.ClaimSeven
namespace Go.Proofs.YtfbigmdpdcpkfaaGreatDoor
namespace Rows

/-- THE TIED CARD OF 'linkworklaw18.TokenSplits'. -/
def tokenSplitsCard : Claim7 := { stood := { row := tokenSplitsRow, standIns := [], harness := (true, "6c856076423057554e15258b99df77281e458acb7bf383bce2847ae5899e6c35"), looks := true }, kinds := [], alts := [], laidByText := true, laidKinds := [.data, .data, .data, .data, .sentinel, .sentinel, .pinned], laidTests := true, laidLooks := .later }
def TokenSplitsCardSaid : Prop := Claim7.holds Tryz.pinned (.plain (OpenSpec.ofChange tokenSplitsSpec)) tokenSplitsCard

/-- THE TIED CARD OF 'linkworklaw18.TokenPlaces'. -/
def tokenPlacesCard : Claim7 := { stood := { row := tokenPlacesRow, standIns := [], harness := (true, "6c856076423057554e15258b99df77281e458acb7bf383bce2847ae5899e6c35"), looks := true }, kinds := [], alts := [], laidByText := true, laidKinds := [.data, .data, .data, .data, .sentinel, .sentinel, .pinned], laidTests := true, laidLooks := .later }
def TokenPlacesCardSaid : Prop := Claim7.holds Tryz.pinned (.plain (OpenSpec.ofChange tokenPlacesSpec)) tokenPlacesCard

/-- THE TIED CARD OF 'linkworklaw18.TokenComments'. -/
def tokenCommentsCard : Claim7 := { stood := { row := tokenCommentsRow, standIns := [], harness := (true, "6c856076423057554e15258b99df77281e458acb7bf383bce2847ae5899e6c35"), looks := true }, kinds := [], alts := [], laidByText := true, laidKinds := [.data, .data, .data, .data, .sentinel, .sentinel, .pinned], laidTests := true, laidLooks := .later }
def TokenCommentsCardSaid : Prop := Claim7.holds Tryz.pinned (.plain (OpenSpec.ofChange tokenCommentsSpec)) tokenCommentsCard

/-- THE TIED CARD OF 'linkworklaw18.TokenValues'. -/
def tokenValuesCard : Claim7 := { stood := { row := tokenValuesRow, standIns := [], harness := (true, "6c856076423057554e15258b99df77281e458acb7bf383bce2847ae5899e6c35"), looks := true }, kinds := [], alts := [], laidByText := true, laidKinds := [.data, .data, .data, .data, .sentinel, .sentinel, .pinned], laidTests := true, laidLooks := .later }
def TokenValuesCardSaid : Prop := Claim7.holds Tryz.pinned (.plain (OpenSpec.ofChange tokenValuesSpec)) tokenValuesCard

/-- THE TIED CARD OF 'linkworklaw18.TokenNumbers'. -/
def tokenNumbersCard : Claim7 := { stood := { row := tokenNumbersRow, standIns := [], harness := (true, "6c856076423057554e15258b99df77281e458acb7bf383bce2847ae5899e6c35"), looks := true }, kinds := [], alts := [], laidByText := true, laidKinds := [.data, .data, .data, .data, .sentinel, .sentinel, .pinned], laidTests := true, laidLooks := .later }
def TokenNumbersCardSaid : Prop := Claim7.holds Tryz.pinned (.plain (OpenSpec.ofChange tokenNumbersSpec)) tokenNumbersCard

/-- THE TIED CARD OF 'linkworklaw18.TokenJoinsAll'. -/
def tokenJoinsAllCard : Claim7 := { stood := { row := tokenJoinsAllRow, standIns := [], harness := (true, "6c856076423057554e15258b99df77281e458acb7bf383bce2847ae5899e6c35"), looks := true }, kinds := [], alts := [], laidByText := true, laidKinds := [.data, .data, .data, .data, .sentinel, .sentinel, .pinned], laidTests := true, laidLooks := .later }
def TokenJoinsAllCardSaid : Prop := Claim7.holds Tryz.pinned (.plain (OpenSpec.ofChange tokenJoinsAllSpec)) tokenJoinsAllCard

/-- THE TIED CARD OF 'linkworklaw18.TokenReturns'. -/
def tokenReturnsCard : Claim7 := { stood := { row := tokenReturnsRow, standIns := [], harness := (true, "6c856076423057554e15258b99df77281e458acb7bf383bce2847ae5899e6c35"), looks := true }, kinds := [], alts := [], laidByText := true, laidKinds := [.data, .data, .data, .data, .sentinel, .sentinel, .pinned], laidTests := true, laidLooks := .later }
def TokenReturnsCardSaid : Prop := Claim7.holds Tryz.pinned (.plain (OpenSpec.ofChange tokenReturnsSpec)) tokenReturnsCard

/-- THE SECOND FORM's CARD OF 'linkworklaw18.TokenSplits'. -/
def tokenSplitsUptoCard : Claim7 := { stood := { row := tokenSplitsUptoRow, standIns := [], harness := (true, "6c856076423057554e15258b99df77281e458acb7bf383bce2847ae5899e6c35"), looks := true }, kinds := [], alts := [], laidByText := true, laidKinds := [.data, .data, .data, .data, .sentinel, .sentinel, .pinned], laidTests := true, laidLooks := .later }
def TokenSplitsUptoCardSaid : Prop := Claim7.holds Tryz.pinned (.plain (OpenSpec.upto tokenSplitsSpec)) tokenSplitsUptoCard

/-- THE SECOND FORM's CARD OF 'linkworklaw18.TokenPlaces'. -/
def tokenPlacesUptoCard : Claim7 := { stood := { row := tokenPlacesUptoRow, standIns := [], harness := (true, "6c856076423057554e15258b99df77281e458acb7bf383bce2847ae5899e6c35"), looks := true }, kinds := [], alts := [], laidByText := true, laidKinds := [.data, .data, .data, .data, .sentinel, .sentinel, .pinned], laidTests := true, laidLooks := .later }
def TokenPlacesUptoCardSaid : Prop := Claim7.holds Tryz.pinned (.plain (OpenSpec.upto tokenPlacesSpec)) tokenPlacesUptoCard

/-- THE SECOND FORM's CARD OF 'linkworklaw18.TokenComments'. -/
def tokenCommentsUptoCard : Claim7 := { stood := { row := tokenCommentsUptoRow, standIns := [], harness := (true, "6c856076423057554e15258b99df77281e458acb7bf383bce2847ae5899e6c35"), looks := true }, kinds := [], alts := [], laidByText := true, laidKinds := [.data, .data, .data, .data, .sentinel, .sentinel, .pinned], laidTests := true, laidLooks := .later }
def TokenCommentsUptoCardSaid : Prop := Claim7.holds Tryz.pinned (.plain (OpenSpec.upto tokenCommentsSpec)) tokenCommentsUptoCard

/-- THE SECOND FORM's CARD OF 'linkworklaw18.TokenValues'. -/
def tokenValuesUptoCard : Claim7 := { stood := { row := tokenValuesUptoRow, standIns := [], harness := (true, "6c856076423057554e15258b99df77281e458acb7bf383bce2847ae5899e6c35"), looks := true }, kinds := [], alts := [], laidByText := true, laidKinds := [.data, .data, .data, .data, .sentinel, .sentinel, .pinned], laidTests := true, laidLooks := .later }
def TokenValuesUptoCardSaid : Prop := Claim7.holds Tryz.pinned (.plain (OpenSpec.upto tokenValuesSpec)) tokenValuesUptoCard

/-- THE SECOND FORM's CARD OF 'linkworklaw18.TokenNumbers'. -/
def tokenNumbersUptoCard : Claim7 := { stood := { row := tokenNumbersUptoRow, standIns := [], harness := (true, "6c856076423057554e15258b99df77281e458acb7bf383bce2847ae5899e6c35"), looks := true }, kinds := [], alts := [], laidByText := true, laidKinds := [.data, .data, .data, .data, .sentinel, .sentinel, .pinned], laidTests := true, laidLooks := .later }
def TokenNumbersUptoCardSaid : Prop := Claim7.holds Tryz.pinned (.plain (OpenSpec.upto tokenNumbersSpec)) tokenNumbersUptoCard

/-- THE SECOND FORM's CARD OF 'linkworklaw18.TokenJoinsAll'. -/
def tokenJoinsAllUptoCard : Claim7 := { stood := { row := tokenJoinsAllUptoRow, standIns := [], harness := (true, "6c856076423057554e15258b99df77281e458acb7bf383bce2847ae5899e6c35"), looks := true }, kinds := [], alts := [], laidByText := true, laidKinds := [.data, .data, .data, .data, .sentinel, .sentinel, .pinned], laidTests := true, laidLooks := .later }
def TokenJoinsAllUptoCardSaid : Prop := Claim7.holds Tryz.pinned (.plain (OpenSpec.upto tokenJoinsAllSpec)) tokenJoinsAllUptoCard

/-- THE SECOND FORM's CARD OF 'linkworklaw18.TokenReturns'. -/
def tokenReturnsUptoCard : Claim7 := { stood := { row := tokenReturnsUptoRow, standIns := [], harness := (true, "6c856076423057554e15258b99df77281e458acb7bf383bce2847ae5899e6c35"), looks := true }, kinds := [], alts := [], laidByText := true, laidKinds := [.data, .data, .data, .data, .sentinel, .sentinel, .pinned], laidTests := true, laidLooks := .later }
def TokenReturnsUptoCardSaid : Prop := Claim7.holds Tryz.pinned (.plain (OpenSpec.upto tokenReturnsSpec)) tokenReturnsUptoCard
end Rows
end Go.Proofs.YtfbigmdpdcpkfaaGreatDoor
