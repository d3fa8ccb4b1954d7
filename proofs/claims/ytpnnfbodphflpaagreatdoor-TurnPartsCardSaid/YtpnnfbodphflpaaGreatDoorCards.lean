/-
  DERIVED. GIVEN WITH THE SEED: THE CARDS: each row of YtpnnfbodphflpaaGreatDoorRows.lean that lists a variable, with what it lists TIED to the program's text (the seventh form; the later family's looks); each row that meets fmt, with fmt's text TOLD by the authors' own Lean function (tested against real Go, not proved from fmt's source: count such statements apart). THE CARD IS WHAT COUNTS. Prove the row's statement (the work); the ties are given (YtpnnfbodphflpaaGreatDoorTie.lean); close each card by the builder's one call (the guide's Derived/Test/ToyasCard.lean, 'card_holds'). Laid BY PROGRAM, IN A SANDBOX (cutbox-door.mjs). By AI agents, Wed Nov 11 2026. No macro, syntax, notation, axiom, sorry.
-/
import Derived.Test.YtpnnfbodphflpaaGreatDoorRows
import GoSem.ClaimSeven
namespace Go.Proofs.YtpnnfbodphflpaaGreatDoor
namespace Rows

/-- THE TIED CARD OF 'linkworklaw12.TurnParts'. -/
def turnPartsCard : Claim7 := { stood := { row := turnPartsRow, standIns := [], harness := (true, "e4f17bff6659ebca5ac33d0e95c438c2b9105f8f55772623a19a8260af52cb2d"), looks := true }, kinds := [], alts := [], laidByText := true, laidKinds := [.data, .data, .data], laidTests := true, laidLooks := .later }
def TurnPartsCardSaid : Prop := Claim7.holds Tryz.pinned (.plain (OpenSpec.ofChange turnPartsSpec)) turnPartsCard

/-- THE TIED CARD OF 'linkworklaw01.IntegerTexts'. -/
def integerTextsCard : Claim7 := { stood := { row := integerTextsRow, standIns := [], harness := (true, "e4f17bff6659ebca5ac33d0e95c438c2b9105f8f55772623a19a8260af52cb2d"), looks := true }, kinds := [], alts := [], laidByText := true, laidKinds := [.data, .data, .data, .data, .sentinel, .sentinel, .pinned], laidTests := true, laidLooks := .later }
def IntegerTextsCardSaid : Prop := Claim7.holds Tryz.pinned (.plain (OpenSpec.ofChange integerTextsSpec)) integerTextsCard

/-- THE TIED CARD OF 'linkworklaw01.IntegerReturns'. -/
def integerReturnsCard : Claim7 := { stood := { row := integerReturnsRow, standIns := [], harness := (true, "e4f17bff6659ebca5ac33d0e95c438c2b9105f8f55772623a19a8260af52cb2d"), looks := true }, kinds := [], alts := [], laidByText := true, laidKinds := [.data, .data, .data, .data, .sentinel, .sentinel, .pinned], laidTests := true, laidLooks := .later }
def IntegerReturnsCardSaid : Prop := Claim7.holds Tryz.pinned (.plain (OpenSpec.ofChange integerReturnsSpec)) integerReturnsCard

/-- THE SECOND FORM's CARD OF 'linkworklaw12.TurnParts'. -/
def turnPartsUptoCard : Claim7 := { stood := { row := turnPartsUptoRow, standIns := [], harness := (true, "e4f17bff6659ebca5ac33d0e95c438c2b9105f8f55772623a19a8260af52cb2d"), looks := true }, kinds := [], alts := [], laidByText := true, laidKinds := [.data, .data, .data], laidTests := true, laidLooks := .later }
def TurnPartsUptoCardSaid : Prop := Claim7.holds Tryz.pinned (.plain (OpenSpec.upto turnPartsSpec)) turnPartsUptoCard

/-- THE SECOND FORM's CARD OF 'linkworklaw01.IntegerTexts'. -/
def integerTextsUptoCard : Claim7 := { stood := { row := integerTextsUptoRow, standIns := [], harness := (true, "e4f17bff6659ebca5ac33d0e95c438c2b9105f8f55772623a19a8260af52cb2d"), looks := true }, kinds := [], alts := [], laidByText := true, laidKinds := [.data, .data, .data, .data, .sentinel, .sentinel, .pinned], laidTests := true, laidLooks := .later }
def IntegerTextsUptoCardSaid : Prop := Claim7.holds Tryz.pinned (.plain (OpenSpec.upto integerTextsSpec)) integerTextsUptoCard

/-- THE SECOND FORM's CARD OF 'linkworklaw01.IntegerReturns'. -/
def integerReturnsUptoCard : Claim7 := { stood := { row := integerReturnsUptoRow, standIns := [], harness := (true, "e4f17bff6659ebca5ac33d0e95c438c2b9105f8f55772623a19a8260af52cb2d"), looks := true }, kinds := [], alts := [], laidByText := true, laidKinds := [.data, .data, .data, .data, .sentinel, .sentinel, .pinned], laidTests := true, laidLooks := .later }
def IntegerReturnsUptoCardSaid : Prop := Claim7.holds Tryz.pinned (.plain (OpenSpec.upto integerReturnsSpec)) integerReturnsUptoCard
end Rows
end Go.Proofs.YtpnnfbodphflpaaGreatDoor
