/-
  DERIVED. GIVEN WITH THE SEED: THE CARDS: each row of YtianjkiakkclgaaGreatDoorRows.lean that lists a variable, with what it lists TIED to the program's text (the seventh form; the later family's looks); each row that meets fmt, with fmt's text TOLD by the authors' own Lean function (tested against real Go, not proved from fmt's source: count such statements apart). THE CARD IS WHAT COUNTS. Prove the row's statement (the work); the ties are given (YtianjkiakkclgaaGreatDoorTie.lean); close each card by the builder's one call (the guide's Derived/Test/ToyasCard.lean, 'card_holds'). Laid BY PROGRAM, IN A SANDBOX (cutbox-door.mjs). By AI agents, Wed Nov 11 2026. No macro, syntax, notation, axiom, sorry.
-/
import Derived.Test.YtianjkiakkclgaaGreatDoorRows
import GoSem.ClaimSeven
namespace Go.Proofs.YtianjkiakkclgaaGreatDoor
namespace Rows

/-- THE TIED CARD OF 'linkworklaw12.TurnMakes'. -/
def turnMakesCard : Claim7 := { stood := { row := turnMakesRow, standIns := [], harness := (true, "9e9486d2ca074001ad97e44f7cbff4bfb949cc5c1f6f127914dadd667fb42f99"), looks := true }, kinds := [], alts := [], laidByText := true, laidKinds := [.data, .data, .data, .data, .sentinel, .sentinel, .pinned], laidTests := true, laidLooks := .later }
def TurnMakesCardSaid : Prop := Claim7.holds Tryz.pinned (.plain (OpenSpec.ofChange turnMakesSpec)) turnMakesCard

/-- THE TIED CARD OF 'linkworklaw12.TurnTexts'. -/
def turnTextsCard : Claim7 := { stood := { row := turnTextsRow, standIns := [], harness := (true, "9e9486d2ca074001ad97e44f7cbff4bfb949cc5c1f6f127914dadd667fb42f99"), looks := true }, kinds := [], alts := [], laidByText := true, laidKinds := [.data, .data, .data, .data, .sentinel, .sentinel, .pinned], laidTests := true, laidLooks := .later }
def TurnTextsCardSaid : Prop := Claim7.holds Tryz.pinned (.plain (OpenSpec.ofChange turnTextsSpec)) turnTextsCard

/-- THE SECOND FORM's CARD OF 'linkworklaw12.TurnMakes'. -/
def turnMakesUptoCard : Claim7 := { stood := { row := turnMakesUptoRow, standIns := [], harness := (true, "9e9486d2ca074001ad97e44f7cbff4bfb949cc5c1f6f127914dadd667fb42f99"), looks := true }, kinds := [], alts := [], laidByText := true, laidKinds := [.data, .data, .data, .data, .sentinel, .sentinel, .pinned], laidTests := true, laidLooks := .later }
def TurnMakesUptoCardSaid : Prop := Claim7.holds Tryz.pinned (.plain (OpenSpec.upto turnMakesSpec)) turnMakesUptoCard

/-- THE SECOND FORM's CARD OF 'linkworklaw12.TurnTexts'. -/
def turnTextsUptoCard : Claim7 := { stood := { row := turnTextsUptoRow, standIns := [], harness := (true, "9e9486d2ca074001ad97e44f7cbff4bfb949cc5c1f6f127914dadd667fb42f99"), looks := true }, kinds := [], alts := [], laidByText := true, laidKinds := [.data, .data, .data, .data, .sentinel, .sentinel, .pinned], laidTests := true, laidLooks := .later }
def TurnTextsUptoCardSaid : Prop := Claim7.holds Tryz.pinned (.plain (OpenSpec.upto turnTextsSpec)) turnTextsUptoCard
end Rows
end Go.Proofs.YtianjkiakkclgaaGreatDoor
