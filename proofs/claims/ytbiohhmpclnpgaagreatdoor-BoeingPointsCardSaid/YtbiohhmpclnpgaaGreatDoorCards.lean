/-
  DERIVED. GIVEN WITH THE SEED: THE CARDS: each row of YtbiohhmpclnpgaaGreatDoorRows.lean that lists a variable, with what it lists TIED to the program's text (the seventh form; the later family's looks); each row that meets fmt, with fmt's text TOLD by the authors' own Lean function (tested against real Go, not proved from fmt's source: count such statements apart). THE CARD IS WHAT COUNTS. Prove the row's statement (the work); the ties are given (YtbiohhmpclnpgaaGreatDoorTie.lean); close each card by the builder's one call (the guide's Derived/Test/ToyasCard.lean, 'card_holds'). Laid BY PROGRAM, IN A SANDBOX (cutbox-door.mjs). By AI agents, Wed Nov 11 2026. No macro, syntax, notation, axiom, sorry.
-/
import Derived.Test.YtbiohhmpclnpgaaGreatDoorRows
import GoSem.ClaimSeven
namespace Go.Proofs.YtbiohhmpclnpgaaGreatDoor
namespace Rows

/-- THE TIED CARD OF 'sparselaw11.BoeingPoints'. -/
def boeingPointsCard : Claim7 := { stood := { row := boeingPointsRow, standIns := [], harness := (true, "7bbed3119012213fe2cb37ed8fdcfce613fe63fda789a01c512b17a9ee656c8c"), looks := true }, kinds := [], alts := [], laidByText := true, laidKinds := [.data, .data, .data, .data, .sentinel, .sentinel, .pinned], laidTests := true, laidLooks := .later }
def BoeingPointsCardSaid : Prop := Claim7.holds Tryz.pinned (.plain (OpenSpec.ofChange boeingPointsSpec)) boeingPointsCard

/-- THE TIED CARD OF 'sparselaw11.BoeingFormats'. -/
def boeingFormatsCard : Claim7 := { stood := { row := boeingFormatsRow, standIns := [], harness := (true, "7bbed3119012213fe2cb37ed8fdcfce613fe63fda789a01c512b17a9ee656c8c"), looks := true }, kinds := [], alts := [], laidByText := true, laidKinds := [.data, .data, .data, .data, .sentinel, .sentinel, .pinned], laidTests := true, laidLooks := .later }
def BoeingFormatsCardSaid : Prop := Claim7.holds Tryz.pinned (.plain (OpenSpec.ofChange boeingFormatsSpec)) boeingFormatsCard

/-- THE SECOND FORM's CARD OF 'sparselaw11.BoeingPoints'. -/
def boeingPointsUptoCard : Claim7 := { stood := { row := boeingPointsUptoRow, standIns := [], harness := (true, "7bbed3119012213fe2cb37ed8fdcfce613fe63fda789a01c512b17a9ee656c8c"), looks := true }, kinds := [], alts := [], laidByText := true, laidKinds := [.data, .data, .data, .data, .sentinel, .sentinel, .pinned], laidTests := true, laidLooks := .later }
def BoeingPointsUptoCardSaid : Prop := Claim7.holds Tryz.pinned (.plain (OpenSpec.upto boeingPointsSpec)) boeingPointsUptoCard

/-- THE SECOND FORM's CARD OF 'sparselaw11.BoeingFormats'. -/
def boeingFormatsUptoCard : Claim7 := { stood := { row := boeingFormatsUptoRow, standIns := [], harness := (true, "7bbed3119012213fe2cb37ed8fdcfce613fe63fda789a01c512b17a9ee656c8c"), looks := true }, kinds := [], alts := [], laidByText := true, laidKinds := [.data, .data, .data, .data, .sentinel, .sentinel, .pinned], laidTests := true, laidLooks := .later }
def BoeingFormatsUptoCardSaid : Prop := Claim7.holds Tryz.pinned (.plain (OpenSpec.upto boeingFormatsSpec)) boeingFormatsUptoCard
end Rows
end Go.Proofs.YtbiohhmpclnpgaaGreatDoor
