/-
  DERIVED. GIVEN WITH THE SEED: THE CARDS: each row of YtkehcfclggmblaaDoorRows.lean that lists a variable, with what it lists TIED to the program's text (the seventh form; the later family's looks); each row that meets fmt, with fmt's text TOLD by the authors' own Lean function (tested against real Go, not proved from fmt's source: count such statements apart). THE CARD IS WHAT COUNTS. Prove the row's statement (the work); the ties are given (YtkehcfclggmblaaDoorTie.lean); close each card by the builder's one call (the guide's Derived/Test/ToyasCard.lean, 'card_holds'). Laid BY PROGRAM, IN A SANDBOX (cutbox-door.mjs). By AI agents, Wed Nov 11 2026. No macro, syntax, notation, axiom, sorry.
-/
import Derived.Test.YtkehcfclggmblaaDoorRows
import GoSem.ClaimSeven
namespace Go.Proofs.YtkehcfclggmblaaDoor
namespace Rows

/-- THE TIED CARD OF 'linkworklaw01.IntegerDivides'. -/
def integerDividesCard : Claim7 := { stood := { row := integerDividesRow, standIns := [], harness := (true, "e4c1fb285894f64f37ebc2aacb9c0e656b58eb6dc607948424b7c116f2d3f93f"), looks := true }, kinds := [], alts := [], laidByText := true, laidKinds := [.data, .data, .data], laidTests := true, laidLooks := .later }
def IntegerDividesCardSaid : Prop := Claim7.holds Tryd.pinned (.plain (OpenSpec.ofChange integerDividesSpec)) integerDividesCard

/-- THE TIED CARD OF 'linkworklaw01.IntegerValid'. -/
def integerValidCard : Claim7 := { stood := { row := integerValidRow, standIns := [], harness := (true, "e4c1fb285894f64f37ebc2aacb9c0e656b58eb6dc607948424b7c116f2d3f93f"), looks := true }, kinds := [], alts := [], laidByText := true, laidKinds := [.data, .data, .data], laidTests := true, laidLooks := .later }
def IntegerValidCardSaid : Prop := Claim7.holds Tryd.pinned (.plain (OpenSpec.ofChange integerValidSpec)) integerValidCard

/-- THE TIED CARD OF 'linkworklaw01.IntegerRing'. -/
def integerRingCard : Claim7 := { stood := { row := integerRingRow, standIns := [], harness := (true, "e4c1fb285894f64f37ebc2aacb9c0e656b58eb6dc607948424b7c116f2d3f93f"), looks := true }, kinds := [], alts := [], laidByText := true, laidKinds := [.data, .data, .data], laidTests := true, laidLooks := .later }
def IntegerRingCardSaid : Prop := Claim7.holds Tryd.pinned (.plain (OpenSpec.ofChange integerRingSpec)) integerRingCard

/-- THE TIED CARD OF 'linkworklaw01.IntegerOrder'. -/
def integerOrderCard : Claim7 := { stood := { row := integerOrderRow, standIns := [], harness := (true, "e4c1fb285894f64f37ebc2aacb9c0e656b58eb6dc607948424b7c116f2d3f93f"), looks := true }, kinds := [], alts := [], laidByText := true, laidKinds := [.data, .data, .data], laidTests := true, laidLooks := .later }
def IntegerOrderCardSaid : Prop := Claim7.holds Tryd.pinned (.plain (OpenSpec.ofChange integerOrderSpec)) integerOrderCard

/-- THE TIED CARD OF 'linkworklaw01.IntegerComputes'. -/
def integerComputesCard : Claim7 := { stood := { row := integerComputesRow, standIns := [], harness := (true, "e4c1fb285894f64f37ebc2aacb9c0e656b58eb6dc607948424b7c116f2d3f93f"), looks := true }, kinds := [], alts := [], laidByText := true, laidKinds := [.data, .data, .data], laidTests := true, laidLooks := .later }
def IntegerComputesCardSaid : Prop := Claim7.holds Tryd.pinned (.plain (OpenSpec.ofChange integerComputesSpec)) integerComputesCard

/-- THE TIED CARD OF 'linkworklaw01.IntegerQuotients'. -/
def integerQuotientsCard : Claim7 := { stood := { row := integerQuotientsRow, standIns := [], harness := (true, "e4c1fb285894f64f37ebc2aacb9c0e656b58eb6dc607948424b7c116f2d3f93f"), looks := true }, kinds := [], alts := [], laidByText := true, laidKinds := [.data, .data, .data], laidTests := true, laidLooks := .later }
def IntegerQuotientsCardSaid : Prop := Claim7.holds Tryd.pinned (.plain (OpenSpec.ofChange integerQuotientsSpec)) integerQuotientsCard

/-- THE SECOND FORM's CARD OF 'linkworklaw01.IntegerDivides'. -/
def integerDividesUptoCard : Claim7 := { stood := { row := integerDividesUptoRow, standIns := [], harness := (true, "e4c1fb285894f64f37ebc2aacb9c0e656b58eb6dc607948424b7c116f2d3f93f"), looks := true }, kinds := [], alts := [], laidByText := true, laidKinds := [.data, .data, .data], laidTests := true, laidLooks := .later }
def IntegerDividesUptoCardSaid : Prop := Claim7.holds Tryd.pinned (.plain (OpenSpec.upto integerDividesSpec)) integerDividesUptoCard

/-- THE SECOND FORM's CARD OF 'linkworklaw01.IntegerValid'. -/
def integerValidUptoCard : Claim7 := { stood := { row := integerValidUptoRow, standIns := [], harness := (true, "e4c1fb285894f64f37ebc2aacb9c0e656b58eb6dc607948424b7c116f2d3f93f"), looks := true }, kinds := [], alts := [], laidByText := true, laidKinds := [.data, .data, .data], laidTests := true, laidLooks := .later }
def IntegerValidUptoCardSaid : Prop := Claim7.holds Tryd.pinned (.plain (OpenSpec.upto integerValidSpec)) integerValidUptoCard

/-- THE SECOND FORM's CARD OF 'linkworklaw01.IntegerRing'. -/
def integerRingUptoCard : Claim7 := { stood := { row := integerRingUptoRow, standIns := [], harness := (true, "e4c1fb285894f64f37ebc2aacb9c0e656b58eb6dc607948424b7c116f2d3f93f"), looks := true }, kinds := [], alts := [], laidByText := true, laidKinds := [.data, .data, .data], laidTests := true, laidLooks := .later }
def IntegerRingUptoCardSaid : Prop := Claim7.holds Tryd.pinned (.plain (OpenSpec.upto integerRingSpec)) integerRingUptoCard

/-- THE SECOND FORM's CARD OF 'linkworklaw01.IntegerOrder'. -/
def integerOrderUptoCard : Claim7 := { stood := { row := integerOrderUptoRow, standIns := [], harness := (true, "e4c1fb285894f64f37ebc2aacb9c0e656b58eb6dc607948424b7c116f2d3f93f"), looks := true }, kinds := [], alts := [], laidByText := true, laidKinds := [.data, .data, .data], laidTests := true, laidLooks := .later }
def IntegerOrderUptoCardSaid : Prop := Claim7.holds Tryd.pinned (.plain (OpenSpec.upto integerOrderSpec)) integerOrderUptoCard

/-- THE SECOND FORM's CARD OF 'linkworklaw01.IntegerComputes'. -/
def integerComputesUptoCard : Claim7 := { stood := { row := integerComputesUptoRow, standIns := [], harness := (true, "e4c1fb285894f64f37ebc2aacb9c0e656b58eb6dc607948424b7c116f2d3f93f"), looks := true }, kinds := [], alts := [], laidByText := true, laidKinds := [.data, .data, .data], laidTests := true, laidLooks := .later }
def IntegerComputesUptoCardSaid : Prop := Claim7.holds Tryd.pinned (.plain (OpenSpec.upto integerComputesSpec)) integerComputesUptoCard

/-- THE SECOND FORM's CARD OF 'linkworklaw01.IntegerQuotients'. -/
def integerQuotientsUptoCard : Claim7 := { stood := { row := integerQuotientsUptoRow, standIns := [], harness := (true, "e4c1fb285894f64f37ebc2aacb9c0e656b58eb6dc607948424b7c116f2d3f93f"), looks := true }, kinds := [], alts := [], laidByText := true, laidKinds := [.data, .data, .data], laidTests := true, laidLooks := .later }
def IntegerQuotientsUptoCardSaid : Prop := Claim7.holds Tryd.pinned (.plain (OpenSpec.upto integerQuotientsSpec)) integerQuotientsUptoCard
end Rows
end Go.Proofs.YtkehcfclggmblaaDoor
