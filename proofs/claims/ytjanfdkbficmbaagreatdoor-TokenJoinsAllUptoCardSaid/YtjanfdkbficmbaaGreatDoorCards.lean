/-
  DERIVED. GIVEN WITH THE SEED: THE CARDS: each row of YtjanfdkbficmbaaGreatDoorRows.lean that lists a variable, with what it lists TIED to the program's text (the seventh form; the later family's looks); each row that meets fmt, with fmt's text TOLD by the authors' own Lean function (tested against real Go, not proved from fmt's source: count such statements apart). THE CARD IS WHAT COUNTS. Prove the row's statement (the work); the ties are given (YtjanfdkbficmbaaGreatDoorTie.lean); close each card by the builder's one call (the guide's Derived/Test/ToyasCard.lean, 'card_holds'). Laid BY PROGRAM, IN A SANDBOX (cutbox-door.mjs). By AI agents, Wed Nov 11 2026. No macro, syntax, notation, axiom, sorry.
-/
import Derived.Test.YtjanfdkbficmbaaGreatDoorRows
import GoSem.ClaimSeven
namespace Go.Proofs.YtjanfdkbficmbaaGreatDoor
namespace Rows

/-- THE TIED CARD OF 'linkworklaw18.TokenJoinsAll'. -/
def tokenJoinsAllCard : Claim7 := { stood := { row := tokenJoinsAllRow, standIns := [], harness := (true, "ee0fb05c4eb2a0166e683059383c21e2b55f8c7bc247eee7e7064ff805c974bf"), looks := true }, kinds := [], alts := [], laidByText := true, laidKinds := [.data, .data, .data, .data, .sentinel, .sentinel, .pinned], laidTests := true, laidLooks := .later }
def TokenJoinsAllCardSaid : Prop := Claim7.holds Tryz.pinned (.plain (OpenSpec.ofChange tokenJoinsAllSpec)) tokenJoinsAllCard

/-- THE SECOND FORM's CARD OF 'linkworklaw18.TokenJoinsAll'. -/
def tokenJoinsAllUptoCard : Claim7 := { stood := { row := tokenJoinsAllUptoRow, standIns := [], harness := (true, "ee0fb05c4eb2a0166e683059383c21e2b55f8c7bc247eee7e7064ff805c974bf"), looks := true }, kinds := [], alts := [], laidByText := true, laidKinds := [.data, .data, .data, .data, .sentinel, .sentinel, .pinned], laidTests := true, laidLooks := .later }
def TokenJoinsAllUptoCardSaid : Prop := Claim7.holds Tryz.pinned (.plain (OpenSpec.upto tokenJoinsAllSpec)) tokenJoinsAllUptoCard
end Rows
end Go.Proofs.YtjanfdkbficmbaaGreatDoor
