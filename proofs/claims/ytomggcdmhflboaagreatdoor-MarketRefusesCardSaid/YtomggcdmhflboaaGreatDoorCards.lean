/-
  DERIVED. GIVEN WITH THE SEED: THE CARDS: each row of YtomggcdmhflboaaGreatDoorRows.lean that lists a variable, with what it lists TIED to the program's text (the seventh form; the later family's looks); each row that meets fmt, with fmt's text TOLD by the authors' own Lean function (tested against real Go, not proved from fmt's source: count such statements apart). THE CARD IS WHAT COUNTS. Prove the row's statement (the work); the ties are given (YtomggcdmhflboaaGreatDoorTie.lean); close each card by the builder's one call (the guide's Derived/Test/ToyasCard.lean, 'card_holds'). Laid BY PROGRAM, IN A SANDBOX (cutbox-door.mjs). By AI agents, Wed Nov 11 2026. No macro, syntax, notation, axiom, sorry.
-/
import Derived.Test.YtomggcdmhflboaaGreatDoorRows
import GoSem.ClaimSeven
namespace Go.Proofs.YtomggcdmhflboaaGreatDoor
namespace Rows

/-- THE TIED CARD OF 'sparselaw10.MarketReads'. -/
def marketReadsCard : Claim7 := { stood := { row := marketReadsRow, standIns := [], harness := (true, "faab97edcf61d8740e96e96013006dbd73f87a2cf9530c84a8843e663d4f0307"), looks := true }, kinds := [], alts := [], laidByText := true, laidKinds := [.data, .data, .data, .data, .sentinel, .sentinel, .widerDeep, .widerDeep, .pinned], laidTests := true, laidLooks := .later }
def MarketReadsCardSaid : Prop := Claim7.holds Tryz.pinned (.plain (OpenSpec.ofChange marketReadsSpec)) marketReadsCard

/-- THE TIED CARD OF 'sparselaw10.MarketRefuses'. -/
def marketRefusesCard : Claim7 := { stood := { row := marketRefusesRow, standIns := [], harness := (true, "faab97edcf61d8740e96e96013006dbd73f87a2cf9530c84a8843e663d4f0307"), looks := true }, kinds := [], alts := [], laidByText := true, laidKinds := [.data, .data, .data, .data, .sentinel, .sentinel, .widerDeep, .widerDeep, .pinned], laidTests := true, laidLooks := .later }
def MarketRefusesCardSaid : Prop := Claim7.holds Tryz.pinned (.plain (OpenSpec.ofChange marketRefusesSpec)) marketRefusesCard

/-- THE SECOND FORM's CARD OF 'sparselaw10.MarketReads'. -/
def marketReadsUptoCard : Claim7 := { stood := { row := marketReadsUptoRow, standIns := [], harness := (true, "faab97edcf61d8740e96e96013006dbd73f87a2cf9530c84a8843e663d4f0307"), looks := true }, kinds := [], alts := [], laidByText := true, laidKinds := [.data, .data, .data, .data, .sentinel, .sentinel, .widerDeep, .widerDeep, .pinned], laidTests := true, laidLooks := .later }
def MarketReadsUptoCardSaid : Prop := Claim7.holds Tryz.pinned (.plain (OpenSpec.upto marketReadsSpec)) marketReadsUptoCard

/-- THE SECOND FORM's CARD OF 'sparselaw10.MarketRefuses'. -/
def marketRefusesUptoCard : Claim7 := { stood := { row := marketRefusesUptoRow, standIns := [], harness := (true, "faab97edcf61d8740e96e96013006dbd73f87a2cf9530c84a8843e663d4f0307"), looks := true }, kinds := [], alts := [], laidByText := true, laidKinds := [.data, .data, .data, .data, .sentinel, .sentinel, .widerDeep, .widerDeep, .pinned], laidTests := true, laidLooks := .later }
def MarketRefusesUptoCardSaid : Prop := Claim7.holds Tryz.pinned (.plain (OpenSpec.upto marketRefusesSpec)) marketRefusesUptoCard
end Rows
end Go.Proofs.YtomggcdmhflboaaGreatDoor
