/-
  DERIVED. GIVEN WITH THE SEED: THE CARDS: each row of YthbeeeclgbpopaaGreatDoorRows.lean that lists a variable, with what it lists TIED to the program's text (the seventh form; the later family's looks); each row that meets fmt, with fmt's text TOLD by the authors' own Lean function (tested against real Go, not proved from fmt's source: count such statements apart). THE CARD IS WHAT COUNTS. Prove the row's statement (the work); the ties are given (YthbeeeclgbpopaaGreatDoorTie.lean); close each card by the builder's one call (the guide's Derived/Test/ToyasCard.lean, 'card_holds'). Laid BY PROGRAM, IN A SANDBOX (cutbox-door.mjs). By AI agents, Wed Nov 11 2026. No macro, syntax, notation, axiom, sorry.
-/
import Derived.Test.YthbeeeclgbpopaaGreatDoorRows
import GoSem.ClaimSeven
namespace Go.Proofs.YthbeeeclgbpopaaGreatDoor
namespace Rows

/-- THE TIED CARD OF 'sparselaw04.DecimalExact'. -/
def decimalExactCard : Claim7 := { stood := { row := decimalExactRow, standIns := [], harness := (true, "6c845d70c5192c70cf2d8d536a159e571dbf68834ccebf0d1ed738201790b491"), looks := true }, kinds := [], alts := [], laidByText := true, laidKinds := [.data, .data, .data, .data, .sentinel, .sentinel, .pinned], laidTests := true, laidLooks := .later }
def DecimalExactCardSaid : Prop := Claim7.holds Tryz.pinned (.plain (OpenSpec.ofChange decimalExactSpec)) decimalExactCard

/-- THE TIED CARD OF 'sparselaw04.DecimalShortest'. -/
def decimalShortestCard : Claim7 := { stood := { row := decimalShortestRow, standIns := [], harness := (true, "6c845d70c5192c70cf2d8d536a159e571dbf68834ccebf0d1ed738201790b491"), looks := true }, kinds := [], alts := [], laidByText := true, laidKinds := [.data, .data, .data, .data, .sentinel, .sentinel, .pinned], laidTests := true, laidLooks := .later }
def DecimalShortestCardSaid : Prop := Claim7.holds Tryz.pinned (.plain (OpenSpec.ofChange decimalShortestSpec)) decimalShortestCard

/-- THE TIED CARD OF 'sparselaw04.DecimalSpelled'. -/
def decimalSpelledCard : Claim7 := { stood := { row := decimalSpelledRow, standIns := [], harness := (true, "6c845d70c5192c70cf2d8d536a159e571dbf68834ccebf0d1ed738201790b491"), looks := true }, kinds := [], alts := [], laidByText := true, laidKinds := [.data, .data, .data, .data, .sentinel, .sentinel, .pinned], laidTests := true, laidLooks := .later }
def DecimalSpelledCardSaid : Prop := Claim7.holds Tryz.pinned (.plain (OpenSpec.ofChange decimalSpelledSpec)) decimalSpelledCard

/-- THE TIED CARD OF 'sparselaw04.DecimalBad'. -/
def decimalBadCard : Claim7 := { stood := { row := decimalBadRow, standIns := [], harness := (true, "6c845d70c5192c70cf2d8d536a159e571dbf68834ccebf0d1ed738201790b491"), looks := true }, kinds := [], alts := [], laidByText := true, laidKinds := [.data, .data, .data, .data, .sentinel, .sentinel, .pinned], laidTests := true, laidLooks := .later }
def DecimalBadCardSaid : Prop := Claim7.holds Tryz.pinned (.plain (OpenSpec.ofChange decimalBadSpec)) decimalBadCard

/-- THE TIED CARD OF 'sparselaw04.DecimalEncloses'. -/
def decimalEnclosesCard : Claim7 := { stood := { row := decimalEnclosesRow, standIns := [], harness := (true, "6c845d70c5192c70cf2d8d536a159e571dbf68834ccebf0d1ed738201790b491"), looks := true }, kinds := [], alts := [], laidByText := true, laidKinds := [.data, .data, .data, .data, .sentinel, .sentinel, .pinned], laidTests := true, laidLooks := .later }
def DecimalEnclosesCardSaid : Prop := Claim7.holds Tryz.pinned (.plain (OpenSpec.ofChange decimalEnclosesSpec)) decimalEnclosesCard

/-- THE TIED CARD OF 'sparselaw04.DecimalWrites'. -/
def decimalWritesCard : Claim7 := { stood := { row := decimalWritesRow, standIns := [], harness := (true, "6c845d70c5192c70cf2d8d536a159e571dbf68834ccebf0d1ed738201790b491"), looks := true }, kinds := [], alts := [], laidByText := true, laidKinds := [.data, .data, .data, .data, .sentinel, .sentinel, .pinned], laidTests := true, laidLooks := .later }
def DecimalWritesCardSaid : Prop := Claim7.holds Tryz.pinned (.plain (OpenSpec.ofChange decimalWritesSpec)) decimalWritesCard

/-- THE TIED CARD OF 'sparselaw04.DecimalBack'. -/
def decimalBackCard : Claim7 := { stood := { row := decimalBackRow, standIns := [], harness := (true, "6c845d70c5192c70cf2d8d536a159e571dbf68834ccebf0d1ed738201790b491"), looks := true }, kinds := [], alts := [], laidByText := true, laidKinds := [.data, .data, .data, .data, .sentinel, .sentinel, .pinned], laidTests := true, laidLooks := .later }
def DecimalBackCardSaid : Prop := Claim7.holds Tryz.pinned (.plain (OpenSpec.ofChange decimalBackSpec)) decimalBackCard

/-- THE TIED CARD OF 'sparselaw04.DecimalDigits'. -/
def decimalDigitsCard : Claim7 := { stood := { row := decimalDigitsRow, standIns := [], harness := (true, "6c845d70c5192c70cf2d8d536a159e571dbf68834ccebf0d1ed738201790b491"), looks := true }, kinds := [], alts := [], laidByText := true, laidKinds := [.data, .data, .data, .data, .sentinel, .sentinel, .pinned], laidTests := true, laidLooks := .later }
def DecimalDigitsCardSaid : Prop := Claim7.holds Tryz.pinned (.plain (OpenSpec.ofChange decimalDigitsSpec)) decimalDigitsCard

/-- THE SECOND FORM's CARD OF 'sparselaw04.DecimalExact'. -/
def decimalExactUptoCard : Claim7 := { stood := { row := decimalExactUptoRow, standIns := [], harness := (true, "6c845d70c5192c70cf2d8d536a159e571dbf68834ccebf0d1ed738201790b491"), looks := true }, kinds := [], alts := [], laidByText := true, laidKinds := [.data, .data, .data, .data, .sentinel, .sentinel, .pinned], laidTests := true, laidLooks := .later }
def DecimalExactUptoCardSaid : Prop := Claim7.holds Tryz.pinned (.plain (OpenSpec.upto decimalExactSpec)) decimalExactUptoCard

/-- THE SECOND FORM's CARD OF 'sparselaw04.DecimalShortest'. -/
def decimalShortestUptoCard : Claim7 := { stood := { row := decimalShortestUptoRow, standIns := [], harness := (true, "6c845d70c5192c70cf2d8d536a159e571dbf68834ccebf0d1ed738201790b491"), looks := true }, kinds := [], alts := [], laidByText := true, laidKinds := [.data, .data, .data, .data, .sentinel, .sentinel, .pinned], laidTests := true, laidLooks := .later }
def DecimalShortestUptoCardSaid : Prop := Claim7.holds Tryz.pinned (.plain (OpenSpec.upto decimalShortestSpec)) decimalShortestUptoCard

/-- THE SECOND FORM's CARD OF 'sparselaw04.DecimalSpelled'. -/
def decimalSpelledUptoCard : Claim7 := { stood := { row := decimalSpelledUptoRow, standIns := [], harness := (true, "6c845d70c5192c70cf2d8d536a159e571dbf68834ccebf0d1ed738201790b491"), looks := true }, kinds := [], alts := [], laidByText := true, laidKinds := [.data, .data, .data, .data, .sentinel, .sentinel, .pinned], laidTests := true, laidLooks := .later }
def DecimalSpelledUptoCardSaid : Prop := Claim7.holds Tryz.pinned (.plain (OpenSpec.upto decimalSpelledSpec)) decimalSpelledUptoCard

/-- THE SECOND FORM's CARD OF 'sparselaw04.DecimalBad'. -/
def decimalBadUptoCard : Claim7 := { stood := { row := decimalBadUptoRow, standIns := [], harness := (true, "6c845d70c5192c70cf2d8d536a159e571dbf68834ccebf0d1ed738201790b491"), looks := true }, kinds := [], alts := [], laidByText := true, laidKinds := [.data, .data, .data, .data, .sentinel, .sentinel, .pinned], laidTests := true, laidLooks := .later }
def DecimalBadUptoCardSaid : Prop := Claim7.holds Tryz.pinned (.plain (OpenSpec.upto decimalBadSpec)) decimalBadUptoCard

/-- THE SECOND FORM's CARD OF 'sparselaw04.DecimalEncloses'. -/
def decimalEnclosesUptoCard : Claim7 := { stood := { row := decimalEnclosesUptoRow, standIns := [], harness := (true, "6c845d70c5192c70cf2d8d536a159e571dbf68834ccebf0d1ed738201790b491"), looks := true }, kinds := [], alts := [], laidByText := true, laidKinds := [.data, .data, .data, .data, .sentinel, .sentinel, .pinned], laidTests := true, laidLooks := .later }
def DecimalEnclosesUptoCardSaid : Prop := Claim7.holds Tryz.pinned (.plain (OpenSpec.upto decimalEnclosesSpec)) decimalEnclosesUptoCard

/-- THE SECOND FORM's CARD OF 'sparselaw04.DecimalWrites'. -/
def decimalWritesUptoCard : Claim7 := { stood := { row := decimalWritesUptoRow, standIns := [], harness := (true, "6c845d70c5192c70cf2d8d536a159e571dbf68834ccebf0d1ed738201790b491"), looks := true }, kinds := [], alts := [], laidByText := true, laidKinds := [.data, .data, .data, .data, .sentinel, .sentinel, .pinned], laidTests := true, laidLooks := .later }
def DecimalWritesUptoCardSaid : Prop := Claim7.holds Tryz.pinned (.plain (OpenSpec.upto decimalWritesSpec)) decimalWritesUptoCard

/-- THE SECOND FORM's CARD OF 'sparselaw04.DecimalBack'. -/
def decimalBackUptoCard : Claim7 := { stood := { row := decimalBackUptoRow, standIns := [], harness := (true, "6c845d70c5192c70cf2d8d536a159e571dbf68834ccebf0d1ed738201790b491"), looks := true }, kinds := [], alts := [], laidByText := true, laidKinds := [.data, .data, .data, .data, .sentinel, .sentinel, .pinned], laidTests := true, laidLooks := .later }
def DecimalBackUptoCardSaid : Prop := Claim7.holds Tryz.pinned (.plain (OpenSpec.upto decimalBackSpec)) decimalBackUptoCard

/-- THE SECOND FORM's CARD OF 'sparselaw04.DecimalDigits'. -/
def decimalDigitsUptoCard : Claim7 := { stood := { row := decimalDigitsUptoRow, standIns := [], harness := (true, "6c845d70c5192c70cf2d8d536a159e571dbf68834ccebf0d1ed738201790b491"), looks := true }, kinds := [], alts := [], laidByText := true, laidKinds := [.data, .data, .data, .data, .sentinel, .sentinel, .pinned], laidTests := true, laidLooks := .later }
def DecimalDigitsUptoCardSaid : Prop := Claim7.holds Tryz.pinned (.plain (OpenSpec.upto decimalDigitsSpec)) decimalDigitsUptoCard
end Rows
end Go.Proofs.YthbeeeclgbpopaaGreatDoor
