/-
  DERIVED. GIVEN WITH THE SEED: THE CARDS: each row of YtoiebebjgnpkmaaGreatDoorRows.lean that lists a variable, with what it lists TIED to the program's text (the seventh form; the later family's looks); each row that meets fmt, with fmt's text TOLD by the authors' own Lean function (tested against real Go, not proved from fmt's source: count such statements apart). THE CARD IS WHAT COUNTS. Prove the row's statement (the work); the ties are given (YtoiebebjgnpkmaaGreatDoorTie.lean); close each card by the builder's one call (the guide's Derived/Test/ToyasCard.lean, 'card_holds'). Laid BY PROGRAM, IN A SANDBOX (cutbox-door.mjs). By AI agents, Wed Nov 11 2026. No macro, syntax, notation, axiom, sorry.
-/
import Derived.Test.YtoiebebjgnpkmaaGreatDoorRows
import GoSem.ClaimSeven
namespace Go.Proofs.YtoiebebjgnpkmaaGreatDoor
namespace Rows

/-- THE TIED CARD OF 'sparselaw11.BoeingValues'. -/
def boeingValuesCard : Claim7 := { stood := { row := boeingValuesRow, standIns := [], harness := (true, "2da67b2511a1a638d48d0f37973e21dab6e776aacda1a4f6d20b6639c44b191c"), looks := true }, kinds := [], alts := [], laidByText := true, laidKinds := [.data, .data, .data, .data, .sentinel, .sentinel, .pinned], laidTests := true, laidLooks := .later }
def BoeingValuesCardSaid : Prop := Claim7.holds Tryz.pinned (.plain (OpenSpec.ofChange boeingValuesSpec)) boeingValuesCard

/-- THE SECOND FORM's CARD OF 'sparselaw11.BoeingValues'. -/
def boeingValuesUptoCard : Claim7 := { stood := { row := boeingValuesUptoRow, standIns := [], harness := (true, "2da67b2511a1a638d48d0f37973e21dab6e776aacda1a4f6d20b6639c44b191c"), looks := true }, kinds := [], alts := [], laidByText := true, laidKinds := [.data, .data, .data, .data, .sentinel, .sentinel, .pinned], laidTests := true, laidLooks := .later }
def BoeingValuesUptoCardSaid : Prop := Claim7.holds Tryz.pinned (.plain (OpenSpec.upto boeingValuesSpec)) boeingValuesUptoCard
end Rows
end Go.Proofs.YtoiebebjgnpkmaaGreatDoor
