/-
  DERIVED. GIVEN WITH THE SEED: THE CARDS: each row of YtpmebjhlgdhchaaDoorRows.lean that lists a variable, with what it lists TIED to the program's text (the seventh form; the later family's looks); each row that meets fmt, with fmt's text TOLD by the authors' own Lean function (tested against real Go, not proved from fmt's source: count such statements apart). THE CARD IS WHAT COUNTS. Prove the row's statement (the work); the ties are given (YtpmebjhlgdhchaaDoorTie.lean); close each card by the builder's one call (the guide's Derived/Test/ToyasCard.lean, 'card_holds'). Laid BY PROGRAM, IN A SANDBOX (cutbox-door.mjs). By AI agents, Wed Nov 11 2026. No macro, syntax, notation, axiom, sorry.
-/
import Derived.Test.YtpmebjhlgdhchaaDoorRows
import GoSem.ClaimSeven
namespace Go.Proofs.YtpmebjhlgdhchaaDoor
namespace Rows

/-- THE TIED CARD OF 'sparselaw01.IntegerDivides'. -/
def integerDividesCard : Claim7 := { stood := { row := integerDividesRow, standIns := [], harness := (true, "57799d4d87bffbbdc9fc509822c0d676aa960d5820ed9bcb6bd96f3bc3d06c6a"), looks := true }, kinds := [], alts := [], laidByText := true, laidKinds := [.data, .data, .data], laidTests := true, laidLooks := .later }
def IntegerDividesCardSaid : Prop := Claim7.holds Tryd.pinned (.plain (OpenSpec.ofChange integerDividesSpec)) integerDividesCard

/-- THE TIED CARD OF 'sparselaw01.IntegerExact'. -/
def integerExactCard : Claim7 := { stood := { row := integerExactRow, standIns := [], harness := (true, "57799d4d87bffbbdc9fc509822c0d676aa960d5820ed9bcb6bd96f3bc3d06c6a"), looks := true }, kinds := [], alts := [], laidByText := true, laidKinds := [.data, .data, .data], laidTests := true, laidLooks := .later }
def IntegerExactCardSaid : Prop := Claim7.holds Tryd.pinned (.plain (OpenSpec.ofChange integerExactSpec)) integerExactCard

/-- THE TIED CARD OF 'sparselaw01.IntegerBits'. -/
def integerBitsCard : Claim7 := { stood := { row := integerBitsRow, standIns := [], harness := (true, "57799d4d87bffbbdc9fc509822c0d676aa960d5820ed9bcb6bd96f3bc3d06c6a"), looks := true }, kinds := [], alts := [], laidByText := true, laidKinds := [.data, .data, .data], laidTests := true, laidLooks := .later }
def IntegerBitsCardSaid : Prop := Claim7.holds Tryd.pinned (.plain (OpenSpec.ofChange integerBitsSpec)) integerBitsCard

/-- THE TIED CARD OF 'sparselaw01.IntegerTexts'. -/
def integerTextsCard : Claim7 := { stood := { row := integerTextsRow, standIns := [], harness := (true, "57799d4d87bffbbdc9fc509822c0d676aa960d5820ed9bcb6bd96f3bc3d06c6a"), looks := true }, kinds := [], alts := [], laidByText := true, laidKinds := [.data, .data, .data, .sentinel, .sentinel], laidTests := true, laidLooks := .later }
def IntegerTextsCardSaid : Prop := Claim7.holds Tryd.pinned (.plain (OpenSpec.ofChange integerTextsSpec)) integerTextsCard

/-- THE TIED CARD OF 'sparselaw01.IntegerOrder'. -/
def integerOrderCard : Claim7 := { stood := { row := integerOrderRow, standIns := [], harness := (true, "57799d4d87bffbbdc9fc509822c0d676aa960d5820ed9bcb6bd96f3bc3d06c6a"), looks := true }, kinds := [], alts := [], laidByText := true, laidKinds := [.data, .data, .data, .sentinel, .sentinel], laidTests := true, laidLooks := .later }
def IntegerOrderCardSaid : Prop := Claim7.holds Tryd.pinned (.plain (OpenSpec.ofChange integerOrderSpec)) integerOrderCard

/-- THE SECOND FORM's CARD OF 'sparselaw01.IntegerDivides'. -/
def integerDividesUptoCard : Claim7 := { stood := { row := integerDividesUptoRow, standIns := [], harness := (true, "57799d4d87bffbbdc9fc509822c0d676aa960d5820ed9bcb6bd96f3bc3d06c6a"), looks := true }, kinds := [], alts := [], laidByText := true, laidKinds := [.data, .data, .data], laidTests := true, laidLooks := .later }
def IntegerDividesUptoCardSaid : Prop := Claim7.holds Tryd.pinned (.plain (OpenSpec.upto integerDividesSpec)) integerDividesUptoCard

/-- THE SECOND FORM's CARD OF 'sparselaw01.IntegerExact'. -/
def integerExactUptoCard : Claim7 := { stood := { row := integerExactUptoRow, standIns := [], harness := (true, "57799d4d87bffbbdc9fc509822c0d676aa960d5820ed9bcb6bd96f3bc3d06c6a"), looks := true }, kinds := [], alts := [], laidByText := true, laidKinds := [.data, .data, .data], laidTests := true, laidLooks := .later }
def IntegerExactUptoCardSaid : Prop := Claim7.holds Tryd.pinned (.plain (OpenSpec.upto integerExactSpec)) integerExactUptoCard

/-- THE SECOND FORM's CARD OF 'sparselaw01.IntegerBits'. -/
def integerBitsUptoCard : Claim7 := { stood := { row := integerBitsUptoRow, standIns := [], harness := (true, "57799d4d87bffbbdc9fc509822c0d676aa960d5820ed9bcb6bd96f3bc3d06c6a"), looks := true }, kinds := [], alts := [], laidByText := true, laidKinds := [.data, .data, .data], laidTests := true, laidLooks := .later }
def IntegerBitsUptoCardSaid : Prop := Claim7.holds Tryd.pinned (.plain (OpenSpec.upto integerBitsSpec)) integerBitsUptoCard

/-- THE SECOND FORM's CARD OF 'sparselaw01.IntegerTexts'. -/
def integerTextsUptoCard : Claim7 := { stood := { row := integerTextsUptoRow, standIns := [], harness := (true, "57799d4d87bffbbdc9fc509822c0d676aa960d5820ed9bcb6bd96f3bc3d06c6a"), looks := true }, kinds := [], alts := [], laidByText := true, laidKinds := [.data, .data, .data, .sentinel, .sentinel], laidTests := true, laidLooks := .later }
def IntegerTextsUptoCardSaid : Prop := Claim7.holds Tryd.pinned (.plain (OpenSpec.upto integerTextsSpec)) integerTextsUptoCard

/-- THE SECOND FORM's CARD OF 'sparselaw01.IntegerOrder'. -/
def integerOrderUptoCard : Claim7 := { stood := { row := integerOrderUptoRow, standIns := [], harness := (true, "57799d4d87bffbbdc9fc509822c0d676aa960d5820ed9bcb6bd96f3bc3d06c6a"), looks := true }, kinds := [], alts := [], laidByText := true, laidKinds := [.data, .data, .data, .sentinel, .sentinel], laidTests := true, laidLooks := .later }
def IntegerOrderUptoCardSaid : Prop := Claim7.holds Tryd.pinned (.plain (OpenSpec.upto integerOrderSpec)) integerOrderUptoCard
end Rows
end Go.Proofs.YtpmebjhlgdhchaaDoor
