/-
  DERIVED. GIVEN WITH THE SEED: THE CARDS: each row of YtkpjhmpjihchpaaGreatDoorRows.lean that lists a variable, with what it lists TIED to the program's text (the seventh form; the later family's looks); each row that meets fmt, with fmt's text TOLD by the authors' own Lean function (tested against real Go, not proved from fmt's source: count such statements apart). THE CARD IS WHAT COUNTS. Prove the row's statement (the work); the ties are given (YtkpjhmpjihchpaaGreatDoorTie.lean); close each card by the builder's one call (the guide's Derived/Test/ToyasCard.lean, 'card_holds'). Laid BY PROGRAM, IN A SANDBOX (cutbox-door.mjs). By AI agents, Wed Nov 11 2026. No macro, syntax, notation, axiom, sorry.
-/
import Derived.Test.YtkpjhmpjihchpaaGreatDoorRows
import GoSem.ClaimSeven
namespace Go.Proofs.YtkpjhmpjihchpaaGreatDoor
namespace Rows

/-- THE TIED CARD OF 'linkworklaw12.TurnMakes'. -/
def turnMakesCard : Claim7 := { stood := { row := turnMakesRow, standIns := [], harness := (true, "c81f3e12c622e4c3a150356b4ae3bb503138594ef60d895a66ce39ecfce41882"), looks := true }, kinds := [], alts := [], laidByText := true, laidKinds := [.data, .data, .data, .data, .sentinel, .sentinel, .pinned], laidTests := true, laidLooks := .later }
def TurnMakesCardSaid : Prop := Claim7.holds Tryz.pinned (.plain (OpenSpec.ofChange turnMakesSpec)) turnMakesCard

/-- THE TIED CARD OF 'linkworklaw02.FractionValid'. -/
def fractionValidCard : Claim7 := { stood := { row := fractionValidRow, standIns := [], harness := (true, "c81f3e12c622e4c3a150356b4ae3bb503138594ef60d895a66ce39ecfce41882"), looks := true }, kinds := [], alts := [], laidByText := true, laidKinds := [.data, .data, .data, .data, .sentinel, .sentinel, .pinned], laidTests := true, laidLooks := .later }
def FractionValidCardSaid : Prop := Claim7.holds Tryz.pinned (.plain (OpenSpec.ofChange fractionValidSpec)) fractionValidCard

/-- THE TIED CARD OF 'linkworklaw02.FractionTexts'. -/
def fractionTextsCard : Claim7 := { stood := { row := fractionTextsRow, standIns := [], harness := (true, "c81f3e12c622e4c3a150356b4ae3bb503138594ef60d895a66ce39ecfce41882"), looks := true }, kinds := [], alts := [], laidByText := true, laidKinds := [.data, .data, .data, .data, .sentinel, .sentinel, .pinned], laidTests := true, laidLooks := .later }
def FractionTextsCardSaid : Prop := Claim7.holds Tryz.pinned (.plain (OpenSpec.ofChange fractionTextsSpec)) fractionTextsCard

/-- THE TIED CARD OF 'linkworklaw02.FractionReturns'. -/
def fractionReturnsCard : Claim7 := { stood := { row := fractionReturnsRow, standIns := [], harness := (true, "c81f3e12c622e4c3a150356b4ae3bb503138594ef60d895a66ce39ecfce41882"), looks := true }, kinds := [], alts := [], laidByText := true, laidKinds := [.data, .data, .data, .data, .sentinel, .sentinel, .pinned], laidTests := true, laidLooks := .later }
def FractionReturnsCardSaid : Prop := Claim7.holds Tryz.pinned (.plain (OpenSpec.ofChange fractionReturnsSpec)) fractionReturnsCard

/-- THE TIED CARD OF 'linkworklaw02.FractionOrder'. -/
def fractionOrderCard : Claim7 := { stood := { row := fractionOrderRow, standIns := [], harness := (true, "c81f3e12c622e4c3a150356b4ae3bb503138594ef60d895a66ce39ecfce41882"), looks := true }, kinds := [], alts := [], laidByText := true, laidKinds := [.data, .data, .data, .data, .sentinel, .sentinel, .pinned], laidTests := true, laidLooks := .later }
def FractionOrderCardSaid : Prop := Claim7.holds Tryz.pinned (.plain (OpenSpec.ofChange fractionOrderSpec)) fractionOrderCard

/-- THE TIED CARD OF 'linkworklaw02.FractionRounds'. -/
def fractionRoundsCard : Claim7 := { stood := { row := fractionRoundsRow, standIns := [], harness := (true, "c81f3e12c622e4c3a150356b4ae3bb503138594ef60d895a66ce39ecfce41882"), looks := true }, kinds := [], alts := [], laidByText := true, laidKinds := [.data, .data, .data, .data, .sentinel, .sentinel, .pinned], laidTests := true, laidLooks := .later }
def FractionRoundsCardSaid : Prop := Claim7.holds Tryz.pinned (.plain (OpenSpec.ofChange fractionRoundsSpec)) fractionRoundsCard

/-- THE TIED CARD OF 'linkworklaw02.FractionField'. -/
def fractionFieldCard : Claim7 := { stood := { row := fractionFieldRow, standIns := [], harness := (true, "c81f3e12c622e4c3a150356b4ae3bb503138594ef60d895a66ce39ecfce41882"), looks := true }, kinds := [], alts := [], laidByText := true, laidKinds := [.data, .data, .data, .data, .sentinel, .sentinel, .pinned], laidTests := true, laidLooks := .later }
def FractionFieldCardSaid : Prop := Claim7.holds Tryz.pinned (.plain (OpenSpec.ofChange fractionFieldSpec)) fractionFieldCard

/-- THE TIED CARD OF 'linkworklaw02.FractionRoots'. -/
def fractionRootsCard : Claim7 := { stood := { row := fractionRootsRow, standIns := [], harness := (true, "c81f3e12c622e4c3a150356b4ae3bb503138594ef60d895a66ce39ecfce41882"), looks := true }, kinds := [], alts := [], laidByText := true, laidKinds := [.data, .data, .data, .data, .sentinel, .sentinel, .pinned], laidTests := true, laidLooks := .later }
def FractionRootsCardSaid : Prop := Claim7.holds Tryz.pinned (.plain (OpenSpec.ofChange fractionRootsSpec)) fractionRootsCard

/-- THE TIED CARD OF 'linkworklaw02.FractionComputes'. -/
def fractionComputesCard : Claim7 := { stood := { row := fractionComputesRow, standIns := [], harness := (true, "c81f3e12c622e4c3a150356b4ae3bb503138594ef60d895a66ce39ecfce41882"), looks := true }, kinds := [], alts := [], laidByText := true, laidKinds := [.data, .data, .data, .data, .sentinel, .sentinel, .pinned], laidTests := true, laidLooks := .later }
def FractionComputesCardSaid : Prop := Claim7.holds Tryz.pinned (.plain (OpenSpec.ofChange fractionComputesSpec)) fractionComputesCard

/-- THE TIED CARD OF 'linkworklaw12.TurnTexts'. -/
def turnTextsCard : Claim7 := { stood := { row := turnTextsRow, standIns := [], harness := (true, "c81f3e12c622e4c3a150356b4ae3bb503138594ef60d895a66ce39ecfce41882"), looks := true }, kinds := [], alts := [], laidByText := true, laidKinds := [.data, .data, .data, .data, .sentinel, .sentinel, .pinned], laidTests := true, laidLooks := .later }
def TurnTextsCardSaid : Prop := Claim7.holds Tryz.pinned (.plain (OpenSpec.ofChange turnTextsSpec)) turnTextsCard

/-- THE SECOND FORM's CARD OF 'linkworklaw12.TurnMakes'. -/
def turnMakesUptoCard : Claim7 := { stood := { row := turnMakesUptoRow, standIns := [], harness := (true, "c81f3e12c622e4c3a150356b4ae3bb503138594ef60d895a66ce39ecfce41882"), looks := true }, kinds := [], alts := [], laidByText := true, laidKinds := [.data, .data, .data, .data, .sentinel, .sentinel, .pinned], laidTests := true, laidLooks := .later }
def TurnMakesUptoCardSaid : Prop := Claim7.holds Tryz.pinned (.plain (OpenSpec.upto turnMakesSpec)) turnMakesUptoCard

/-- THE SECOND FORM's CARD OF 'linkworklaw02.FractionValid'. -/
def fractionValidUptoCard : Claim7 := { stood := { row := fractionValidUptoRow, standIns := [], harness := (true, "c81f3e12c622e4c3a150356b4ae3bb503138594ef60d895a66ce39ecfce41882"), looks := true }, kinds := [], alts := [], laidByText := true, laidKinds := [.data, .data, .data, .data, .sentinel, .sentinel, .pinned], laidTests := true, laidLooks := .later }
def FractionValidUptoCardSaid : Prop := Claim7.holds Tryz.pinned (.plain (OpenSpec.upto fractionValidSpec)) fractionValidUptoCard

/-- THE SECOND FORM's CARD OF 'linkworklaw02.FractionTexts'. -/
def fractionTextsUptoCard : Claim7 := { stood := { row := fractionTextsUptoRow, standIns := [], harness := (true, "c81f3e12c622e4c3a150356b4ae3bb503138594ef60d895a66ce39ecfce41882"), looks := true }, kinds := [], alts := [], laidByText := true, laidKinds := [.data, .data, .data, .data, .sentinel, .sentinel, .pinned], laidTests := true, laidLooks := .later }
def FractionTextsUptoCardSaid : Prop := Claim7.holds Tryz.pinned (.plain (OpenSpec.upto fractionTextsSpec)) fractionTextsUptoCard

/-- THE SECOND FORM's CARD OF 'linkworklaw02.FractionReturns'. -/
def fractionReturnsUptoCard : Claim7 := { stood := { row := fractionReturnsUptoRow, standIns := [], harness := (true, "c81f3e12c622e4c3a150356b4ae3bb503138594ef60d895a66ce39ecfce41882"), looks := true }, kinds := [], alts := [], laidByText := true, laidKinds := [.data, .data, .data, .data, .sentinel, .sentinel, .pinned], laidTests := true, laidLooks := .later }
def FractionReturnsUptoCardSaid : Prop := Claim7.holds Tryz.pinned (.plain (OpenSpec.upto fractionReturnsSpec)) fractionReturnsUptoCard

/-- THE SECOND FORM's CARD OF 'linkworklaw02.FractionOrder'. -/
def fractionOrderUptoCard : Claim7 := { stood := { row := fractionOrderUptoRow, standIns := [], harness := (true, "c81f3e12c622e4c3a150356b4ae3bb503138594ef60d895a66ce39ecfce41882"), looks := true }, kinds := [], alts := [], laidByText := true, laidKinds := [.data, .data, .data, .data, .sentinel, .sentinel, .pinned], laidTests := true, laidLooks := .later }
def FractionOrderUptoCardSaid : Prop := Claim7.holds Tryz.pinned (.plain (OpenSpec.upto fractionOrderSpec)) fractionOrderUptoCard

/-- THE SECOND FORM's CARD OF 'linkworklaw02.FractionRounds'. -/
def fractionRoundsUptoCard : Claim7 := { stood := { row := fractionRoundsUptoRow, standIns := [], harness := (true, "c81f3e12c622e4c3a150356b4ae3bb503138594ef60d895a66ce39ecfce41882"), looks := true }, kinds := [], alts := [], laidByText := true, laidKinds := [.data, .data, .data, .data, .sentinel, .sentinel, .pinned], laidTests := true, laidLooks := .later }
def FractionRoundsUptoCardSaid : Prop := Claim7.holds Tryz.pinned (.plain (OpenSpec.upto fractionRoundsSpec)) fractionRoundsUptoCard

/-- THE SECOND FORM's CARD OF 'linkworklaw02.FractionField'. -/
def fractionFieldUptoCard : Claim7 := { stood := { row := fractionFieldUptoRow, standIns := [], harness := (true, "c81f3e12c622e4c3a150356b4ae3bb503138594ef60d895a66ce39ecfce41882"), looks := true }, kinds := [], alts := [], laidByText := true, laidKinds := [.data, .data, .data, .data, .sentinel, .sentinel, .pinned], laidTests := true, laidLooks := .later }
def FractionFieldUptoCardSaid : Prop := Claim7.holds Tryz.pinned (.plain (OpenSpec.upto fractionFieldSpec)) fractionFieldUptoCard

/-- THE SECOND FORM's CARD OF 'linkworklaw02.FractionRoots'. -/
def fractionRootsUptoCard : Claim7 := { stood := { row := fractionRootsUptoRow, standIns := [], harness := (true, "c81f3e12c622e4c3a150356b4ae3bb503138594ef60d895a66ce39ecfce41882"), looks := true }, kinds := [], alts := [], laidByText := true, laidKinds := [.data, .data, .data, .data, .sentinel, .sentinel, .pinned], laidTests := true, laidLooks := .later }
def FractionRootsUptoCardSaid : Prop := Claim7.holds Tryz.pinned (.plain (OpenSpec.upto fractionRootsSpec)) fractionRootsUptoCard

/-- THE SECOND FORM's CARD OF 'linkworklaw02.FractionComputes'. -/
def fractionComputesUptoCard : Claim7 := { stood := { row := fractionComputesUptoRow, standIns := [], harness := (true, "c81f3e12c622e4c3a150356b4ae3bb503138594ef60d895a66ce39ecfce41882"), looks := true }, kinds := [], alts := [], laidByText := true, laidKinds := [.data, .data, .data, .data, .sentinel, .sentinel, .pinned], laidTests := true, laidLooks := .later }
def FractionComputesUptoCardSaid : Prop := Claim7.holds Tryz.pinned (.plain (OpenSpec.upto fractionComputesSpec)) fractionComputesUptoCard

/-- THE SECOND FORM's CARD OF 'linkworklaw12.TurnTexts'. -/
def turnTextsUptoCard : Claim7 := { stood := { row := turnTextsUptoRow, standIns := [], harness := (true, "c81f3e12c622e4c3a150356b4ae3bb503138594ef60d895a66ce39ecfce41882"), looks := true }, kinds := [], alts := [], laidByText := true, laidKinds := [.data, .data, .data, .data, .sentinel, .sentinel, .pinned], laidTests := true, laidLooks := .later }
def TurnTextsUptoCardSaid : Prop := Claim7.holds Tryz.pinned (.plain (OpenSpec.upto turnTextsSpec)) turnTextsUptoCard
end Rows
end Go.Proofs.YtkpjhmpjihchpaaGreatDoor
