/-
  DERIVED. GIVEN WITH THE SEED: THE CARDS: each row of YtaijhllckmndhaaGreatDoorRows.lean that lists a variable, with what it lists TIED to the program's text (the seventh form; the later family's looks); each row that meets fmt, with fmt's text TOLD by the authors' own Lean function (tested against real Go, not proved from fmt's source: count such statements apart). THE CARD IS WHAT COUNTS. Prove the row's statement (the work); the ties are given (YtaijhllckmndhaaGreatDoorTie.lean); close each card by the builder's one call (the guide's Derived/Test/ToyasCard.lean, 'card_holds'). Laid BY PROGRAM, IN A SANDBOX (cutbox-door.mjs). By AI agents, Wed Nov 11 2026. No macro, syntax, notation, axiom, sorry.
-/
import Derived.Test.YtaijhllckmndhaaGreatDoorRows
import GoSem.ClaimSeven
namespace Go.Proofs.YtaijhllckmndhaaGreatDoor
namespace Rows

/-- THE TIED CARD OF 'sparselaw10.MarketReads'. -/
def marketReadsCard : Claim7 := { stood := { row := marketReadsRow, standIns := [], harness := (true, "dc2423c33632f9872d4479905ff6d2dd9526761c6110b2e153e31a89925865c5"), looks := true }, kinds := [], alts := [], laidByText := true, laidKinds := [.data, .data, .data, .data, .sentinel, .sentinel, .widerDeep, .widerDeep, .pinned], laidTests := true, laidLooks := .later }
def MarketReadsCardSaid : Prop := Claim7.holds Tryz.pinned (.plain (OpenSpec.ofChange marketReadsSpec)) marketReadsCard

/-- THE TIED CARD OF 'sparselaw10.MarketWrites'. -/
def marketWritesCard : Claim7 := { stood := { row := marketWritesRow, standIns := [], harness := (true, "dc2423c33632f9872d4479905ff6d2dd9526761c6110b2e153e31a89925865c5"), looks := true }, kinds := [], alts := [], laidByText := true, laidKinds := [.data, .data, .data, .data, .sentinel, .sentinel, .widerDeep, .widerDeep, .pinned], laidTests := true, laidLooks := .later }
def MarketWritesCardSaid : Prop := Claim7.holds Tryz.pinned (.plain (OpenSpec.ofChange marketWritesSpec)) marketWritesCard

/-- THE TIED CARD OF 'sparselaw10.MarketRound'. -/
def marketRoundCard : Claim7 := { stood := { row := marketRoundRow, standIns := [], harness := (true, "dc2423c33632f9872d4479905ff6d2dd9526761c6110b2e153e31a89925865c5"), looks := true }, kinds := [], alts := [], laidByText := true, laidKinds := [.data, .data, .data, .data, .sentinel, .sentinel, .widerDeep, .widerDeep, .pinned], laidTests := true, laidLooks := .later }
def MarketRoundCardSaid : Prop := Claim7.holds Tryz.pinned (.plain (OpenSpec.ofChange marketRoundSpec)) marketRoundCard

/-- THE TIED CARD OF 'sparselaw10.MarketAgain'. -/
def marketAgainCard : Claim7 := { stood := { row := marketAgainRow, standIns := [], harness := (true, "dc2423c33632f9872d4479905ff6d2dd9526761c6110b2e153e31a89925865c5"), looks := true }, kinds := [], alts := [], laidByText := true, laidKinds := [.data, .data, .data, .data, .sentinel, .sentinel, .widerDeep, .widerDeep, .pinned], laidTests := true, laidLooks := .later }
def MarketAgainCardSaid : Prop := Claim7.holds Tryz.pinned (.plain (OpenSpec.ofChange marketAgainSpec)) marketAgainCard

/-- THE TIED CARD OF 'sparselaw10.MarketLoose'. -/
def marketLooseCard : Claim7 := { stood := { row := marketLooseRow, standIns := [], harness := (true, "dc2423c33632f9872d4479905ff6d2dd9526761c6110b2e153e31a89925865c5"), looks := true }, kinds := [], alts := [], laidByText := true, laidKinds := [.data, .data, .data, .data, .sentinel, .sentinel, .widerDeep, .widerDeep, .pinned], laidTests := true, laidLooks := .later }
def MarketLooseCardSaid : Prop := Claim7.holds Tryz.pinned (.plain (OpenSpec.ofChange marketLooseSpec)) marketLooseCard

/-- THE SECOND FORM's CARD OF 'sparselaw10.MarketReads'. -/
def marketReadsUptoCard : Claim7 := { stood := { row := marketReadsUptoRow, standIns := [], harness := (true, "dc2423c33632f9872d4479905ff6d2dd9526761c6110b2e153e31a89925865c5"), looks := true }, kinds := [], alts := [], laidByText := true, laidKinds := [.data, .data, .data, .data, .sentinel, .sentinel, .widerDeep, .widerDeep, .pinned], laidTests := true, laidLooks := .later }
def MarketReadsUptoCardSaid : Prop := Claim7.holds Tryz.pinned (.plain (OpenSpec.upto marketReadsSpec)) marketReadsUptoCard

/-- THE SECOND FORM's CARD OF 'sparselaw10.MarketWrites'. -/
def marketWritesUptoCard : Claim7 := { stood := { row := marketWritesUptoRow, standIns := [], harness := (true, "dc2423c33632f9872d4479905ff6d2dd9526761c6110b2e153e31a89925865c5"), looks := true }, kinds := [], alts := [], laidByText := true, laidKinds := [.data, .data, .data, .data, .sentinel, .sentinel, .widerDeep, .widerDeep, .pinned], laidTests := true, laidLooks := .later }
def MarketWritesUptoCardSaid : Prop := Claim7.holds Tryz.pinned (.plain (OpenSpec.upto marketWritesSpec)) marketWritesUptoCard

/-- THE SECOND FORM's CARD OF 'sparselaw10.MarketRound'. -/
def marketRoundUptoCard : Claim7 := { stood := { row := marketRoundUptoRow, standIns := [], harness := (true, "dc2423c33632f9872d4479905ff6d2dd9526761c6110b2e153e31a89925865c5"), looks := true }, kinds := [], alts := [], laidByText := true, laidKinds := [.data, .data, .data, .data, .sentinel, .sentinel, .widerDeep, .widerDeep, .pinned], laidTests := true, laidLooks := .later }
def MarketRoundUptoCardSaid : Prop := Claim7.holds Tryz.pinned (.plain (OpenSpec.upto marketRoundSpec)) marketRoundUptoCard

/-- THE SECOND FORM's CARD OF 'sparselaw10.MarketAgain'. -/
def marketAgainUptoCard : Claim7 := { stood := { row := marketAgainUptoRow, standIns := [], harness := (true, "dc2423c33632f9872d4479905ff6d2dd9526761c6110b2e153e31a89925865c5"), looks := true }, kinds := [], alts := [], laidByText := true, laidKinds := [.data, .data, .data, .data, .sentinel, .sentinel, .widerDeep, .widerDeep, .pinned], laidTests := true, laidLooks := .later }
def MarketAgainUptoCardSaid : Prop := Claim7.holds Tryz.pinned (.plain (OpenSpec.upto marketAgainSpec)) marketAgainUptoCard

/-- THE SECOND FORM's CARD OF 'sparselaw10.MarketLoose'. -/
def marketLooseUptoCard : Claim7 := { stood := { row := marketLooseUptoRow, standIns := [], harness := (true, "dc2423c33632f9872d4479905ff6d2dd9526761c6110b2e153e31a89925865c5"), looks := true }, kinds := [], alts := [], laidByText := true, laidKinds := [.data, .data, .data, .data, .sentinel, .sentinel, .widerDeep, .widerDeep, .pinned], laidTests := true, laidLooks := .later }
def MarketLooseUptoCardSaid : Prop := Claim7.holds Tryz.pinned (.plain (OpenSpec.upto marketLooseSpec)) marketLooseUptoCard
end Rows
end Go.Proofs.YtaijhllckmndhaaGreatDoor
