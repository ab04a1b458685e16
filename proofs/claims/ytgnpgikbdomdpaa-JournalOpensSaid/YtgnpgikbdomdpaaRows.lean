/-
  No cell of these rows narrows 'for every input' (looked for: loops, veiled, ifaces, maps, wideKeys, modest, calm, conditions, laid).
  DERIVED. THE GIVEN ROWS OF THIS SEAT. 10 by the template 'for every input the law returns true; each argument reads behind the call as it read before'; 0 by the template 'total and deterministic' (their statements: YtgnpgikbdomdpaaTotals.lean).
  GIVEN WITH THE SEED: the statements are not yours to turn. If you find one false, say at which input.
  Laid BY PROGRAM, IN A SANDBOX (cutbox-rows.mjs): the forced cells as the released guide's own fill.sh prints them over the translation d94455f6d29e443f… (all of the seat's roots in one cut). By AI agents, Wed Nov 11 2026. No macro, syntax, notation, axiom, sorry.
-/
import Derived.Test.YtgnpgikbdomdpaaChecked
import GoSem.Claim
import GoSem.ClaimJoined
import GoSem.ClaimMapViews
import Derived.JoinedTies
import Derived.KernelRfl
namespace Go.Proofs.Ytgnpgikbdomdpaa
/- THE CELL 'sum', in the pinned program and in every row, IS THE sha256 OF THE DUMP (.gsa) THAT YtgnpgikbdomdpaaProg.lean LOADS. Nothing in Lean hashes anything: it is a label: what it is worth is what the hold of that sum in a sandbox is worth. -/
noncomputable def Try.pinned : Pinned := { name := "ytgnpgikbdomdpaa", sum := "d94455f6d29e443f2b8dde508645aa10d0bedd72ac24ba42df78dc318423cc3a", checked := Try.checked }
namespace Rows
def none {H : Type} : Left H := { results := [], args := [] }

/-- 'sparselaw30.DiskFollows': WHATEVER THE INPUT: true; the input reads as it did. -/
def diskFollowsSpec : ChangeSpec := { name := "diskFollows", fn := fun _ => fun
  | [d1, d2] => { results := [.lit (.bool true)], args := [d1, d2] }
  | _ => none }
def diskFollowsRow : OpenClaim := { program := "ytgnpgikbdomdpaa", sum := "d94455f6d29e443f2b8dde508645aa10d0bedd72ac24ba42df78dc318423cc3a", func := "sparse/sparselaw30.DiskFollows", spec := "diskFollows", apart := false }
def DiskFollowsSaid : Prop := diskFollowsRow.holds Try.pinned (OpenSpec.ofChange diskFollowsSpec)

/-- ITS FALSE NEIGHBOUR: 'it returns false'. Refute it at one input. -/
def diskFollowsWrong : ChangeSpec := { name := "diskFollows", fn := fun _ => fun
  | [d1, d2] => { results := [.lit (.bool false)], args := [d1, d2] }
  | _ => none }
def DiskFollowsWrongFalsely : Prop := diskFollowsRow.holds Try.pinned (OpenSpec.ofChange diskFollowsWrong)

/-- 'sparselaw30.DiskLimits': WHATEVER THE INPUT: true; the input reads as it did. -/
def diskLimitsSpec : ChangeSpec := { name := "diskLimits", fn := fun _ => fun
  | [d1, d2, d3] => { results := [.lit (.bool true)], args := [d1, d2, d3] }
  | _ => none }
def diskLimitsRow : OpenClaim := { program := "ytgnpgikbdomdpaa", sum := "d94455f6d29e443f2b8dde508645aa10d0bedd72ac24ba42df78dc318423cc3a", func := "sparse/sparselaw30.DiskLimits", spec := "diskLimits", apart := false }
def DiskLimitsSaid : Prop := diskLimitsRow.holds Try.pinned (OpenSpec.ofChange diskLimitsSpec)

/-- ITS FALSE NEIGHBOUR: 'it returns false'. Refute it at one input. -/
def diskLimitsWrong : ChangeSpec := { name := "diskLimits", fn := fun _ => fun
  | [d1, d2, d3] => { results := [.lit (.bool false)], args := [d1, d2, d3] }
  | _ => none }
def DiskLimitsWrongFalsely : Prop := diskLimitsRow.holds Try.pinned (OpenSpec.ofChange diskLimitsWrong)

/-- 'sparselaw30.DiskCopies': WHATEVER THE INPUT: true; the input reads as it did. -/
def diskCopiesSpec : ChangeSpec := { name := "diskCopies", fn := fun _ => fun
  | [d1, d2] => { results := [.lit (.bool true)], args := [d1, d2] }
  | _ => none }
def diskCopiesRow : OpenClaim := { program := "ytgnpgikbdomdpaa", sum := "d94455f6d29e443f2b8dde508645aa10d0bedd72ac24ba42df78dc318423cc3a", func := "sparse/sparselaw30.DiskCopies", spec := "diskCopies", apart := false }
def DiskCopiesSaid : Prop := diskCopiesRow.holds Try.pinned (OpenSpec.ofChange diskCopiesSpec)

/-- ITS FALSE NEIGHBOUR: 'it returns false'. Refute it at one input. -/
def diskCopiesWrong : ChangeSpec := { name := "diskCopies", fn := fun _ => fun
  | [d1, d2] => { results := [.lit (.bool false)], args := [d1, d2] }
  | _ => none }
def DiskCopiesWrongFalsely : Prop := diskCopiesRow.holds Try.pinned (OpenSpec.ofChange diskCopiesWrong)

/-- 'sparselaw30.DiskSyncs': WHATEVER THE INPUT: true; the input reads as it did. -/
def diskSyncsSpec : ChangeSpec := { name := "diskSyncs", fn := fun _ => fun
  | [d1, d2, d3] => { results := [.lit (.bool true)], args := [d1, d2, d3] }
  | _ => none }
def diskSyncsRow : OpenClaim := { program := "ytgnpgikbdomdpaa", sum := "d94455f6d29e443f2b8dde508645aa10d0bedd72ac24ba42df78dc318423cc3a", func := "sparse/sparselaw30.DiskSyncs", spec := "diskSyncs", apart := false }
def DiskSyncsSaid : Prop := diskSyncsRow.holds Try.pinned (OpenSpec.ofChange diskSyncsSpec)

/-- ITS FALSE NEIGHBOUR: 'it returns false'. Refute it at one input. -/
def diskSyncsWrong : ChangeSpec := { name := "diskSyncs", fn := fun _ => fun
  | [d1, d2, d3] => { results := [.lit (.bool false)], args := [d1, d2, d3] }
  | _ => none }
def DiskSyncsWrongFalsely : Prop := diskSyncsRow.holds Try.pinned (OpenSpec.ofChange diskSyncsWrong)

/-- 'sparselaw30.DiskNil': WHATEVER THE INPUT: true; the input reads as it did. -/
def diskNilSpec : ChangeSpec := { name := "diskNil", fn := fun _ => fun
  | [d1, d2, d3] => { results := [.lit (.bool true)], args := [d1, d2, d3] }
  | _ => none }
def diskNilRow : OpenClaim := { program := "ytgnpgikbdomdpaa", sum := "d94455f6d29e443f2b8dde508645aa10d0bedd72ac24ba42df78dc318423cc3a", func := "sparse/sparselaw30.DiskNil", spec := "diskNil", apart := false }
def DiskNilSaid : Prop := diskNilRow.holds Try.pinned (OpenSpec.ofChange diskNilSpec)

/-- ITS FALSE NEIGHBOUR: 'it returns false'. Refute it at one input. -/
def diskNilWrong : ChangeSpec := { name := "diskNil", fn := fun _ => fun
  | [d1, d2, d3] => { results := [.lit (.bool false)], args := [d1, d2, d3] }
  | _ => none }
def DiskNilWrongFalsely : Prop := diskNilRow.holds Try.pinned (OpenSpec.ofChange diskNilWrong)

/-- 'sparselaw31.JournalLimits': WHATEVER THE INPUT: true; the input reads as it did. -/
def journalLimitsSpec : ChangeSpec := { name := "journalLimits", fn := fun _ => fun
  | [d1, d2] => { results := [.lit (.bool true)], args := [d1, d2] }
  | _ => none }
def journalLimitsRow : OpenClaim := { program := "ytgnpgikbdomdpaa", sum := "d94455f6d29e443f2b8dde508645aa10d0bedd72ac24ba42df78dc318423cc3a", func := "sparse/sparselaw31.JournalLimits", spec := "journalLimits", apart := false }
def JournalLimitsSaid : Prop := journalLimitsRow.holds Try.pinned (OpenSpec.ofChange journalLimitsSpec)

/-- ITS FALSE NEIGHBOUR: 'it returns false'. Refute it at one input. -/
def journalLimitsWrong : ChangeSpec := { name := "journalLimits", fn := fun _ => fun
  | [d1, d2] => { results := [.lit (.bool false)], args := [d1, d2] }
  | _ => none }
def JournalLimitsWrongFalsely : Prop := journalLimitsRow.holds Try.pinned (OpenSpec.ofChange journalLimitsWrong)

/-- 'sparselaw31.JournalPrefix': WHATEVER THE INPUT: true; the input reads as it did. -/
def journalPrefixSpec : ChangeSpec := { name := "journalPrefix", fn := fun _ => fun
  | [d1, d2, d3, d4] => { results := [.lit (.bool true)], args := [d1, d2, d3, d4] }
  | _ => none }
def journalPrefixRow : OpenClaim := { program := "ytgnpgikbdomdpaa", sum := "d94455f6d29e443f2b8dde508645aa10d0bedd72ac24ba42df78dc318423cc3a", func := "sparse/sparselaw31.JournalPrefix", spec := "journalPrefix", apart := false }
def JournalPrefixSaid : Prop := journalPrefixRow.holds Try.pinned (OpenSpec.ofChange journalPrefixSpec)

/-- ITS FALSE NEIGHBOUR: 'it returns false'. Refute it at one input. -/
def journalPrefixWrong : ChangeSpec := { name := "journalPrefix", fn := fun _ => fun
  | [d1, d2, d3, d4] => { results := [.lit (.bool false)], args := [d1, d2, d3, d4] }
  | _ => none }
def JournalPrefixWrongFalsely : Prop := journalPrefixRow.holds Try.pinned (OpenSpec.ofChange journalPrefixWrong)

/-- 'sparselaw31.JournalNil': WHATEVER THE INPUT: true; the input reads as it did. -/
def journalNilSpec : ChangeSpec := { name := "journalNil", fn := fun _ => fun
  | [d] => { results := [.lit (.bool true)], args := [d] }
  | _ => none }
def journalNilRow : OpenClaim := { program := "ytgnpgikbdomdpaa", sum := "d94455f6d29e443f2b8dde508645aa10d0bedd72ac24ba42df78dc318423cc3a", func := "sparse/sparselaw31.JournalNil", spec := "journalNil", apart := false }
def JournalNilSaid : Prop := journalNilRow.holds Try.pinned (OpenSpec.ofChange journalNilSpec)

/-- ITS FALSE NEIGHBOUR: 'it returns false'. Refute it at one input. -/
def journalNilWrong : ChangeSpec := { name := "journalNil", fn := fun _ => fun
  | [d] => { results := [.lit (.bool false)], args := [d] }
  | _ => none }
def JournalNilWrongFalsely : Prop := journalNilRow.holds Try.pinned (OpenSpec.ofChange journalNilWrong)

/-- 'sparselaw31.JournalOpens': WHATEVER THE INPUT: true; the input reads as it did. -/
def journalOpensSpec : ChangeSpec := { name := "journalOpens", fn := fun _ => fun
  | [d1, d2, d3] => { results := [.lit (.bool true)], args := [d1, d2, d3] }
  | _ => none }
def journalOpensRow : OpenClaim := { program := "ytgnpgikbdomdpaa", sum := "d94455f6d29e443f2b8dde508645aa10d0bedd72ac24ba42df78dc318423cc3a", func := "sparse/sparselaw31.JournalOpens", spec := "journalOpens", apart := false }
def JournalOpensSaid : Prop := journalOpensRow.holds Try.pinned (OpenSpec.ofChange journalOpensSpec)

/-- ITS FALSE NEIGHBOUR: 'it returns false'. Refute it at one input. -/
def journalOpensWrong : ChangeSpec := { name := "journalOpens", fn := fun _ => fun
  | [d1, d2, d3] => { results := [.lit (.bool false)], args := [d1, d2, d3] }
  | _ => none }
def JournalOpensWrongFalsely : Prop := journalOpensRow.holds Try.pinned (OpenSpec.ofChange journalOpensWrong)

/-- 'sparselaw31.JournalFollows': WHATEVER THE INPUT: true; the input reads as it did. -/
def journalFollowsSpec : ChangeSpec := { name := "journalFollows", fn := fun _ => fun
  | [d1, d2] => { results := [.lit (.bool true)], args := [d1, d2] }
  | _ => none }
def journalFollowsRow : OpenClaim := { program := "ytgnpgikbdomdpaa", sum := "d94455f6d29e443f2b8dde508645aa10d0bedd72ac24ba42df78dc318423cc3a", func := "sparse/sparselaw31.JournalFollows", spec := "journalFollows", apart := false }
def JournalFollowsSaid : Prop := journalFollowsRow.holds Try.pinned (OpenSpec.ofChange journalFollowsSpec)

/-- ITS FALSE NEIGHBOUR: 'it returns false'. Refute it at one input. -/
def journalFollowsWrong : ChangeSpec := { name := "journalFollows", fn := fun _ => fun
  | [d1, d2] => { results := [.lit (.bool false)], args := [d1, d2] }
  | _ => none }
def JournalFollowsWrongFalsely : Prop := journalFollowsRow.holds Try.pinned (OpenSpec.ofChange journalFollowsWrong)

/- THE SECOND FORM. 'bulk': how many values and letters a reading holds, each counted each time it is reached (what is shared counts as often as it is met; a slice's spare places count too). A statement '..UptoSaid' is the law's where the arguments, and the package variables that the reading takes, are together of bulk at most 1048576: NARROWER than '..Said'. Prove '..Said' where nothing that the law and all that it calls make is longer than what came in: it says more and counts as full. Else prove '..UptoSaid'. A law counts once. -/
mutual
def uptoBulk {H : Type} : DataW H → Nat
  | .lit (.string bytes) => bytes.length + 1
  | .lit _ => 1
  | .nil => 1
  | .ptr d => uptoBulk d + 1
  | .slice elems spare => uptoBulkAll elems + uptoBulkAll spare + 1
  | .agg parts => uptoBulkAll parts + 1
  | .iface _ d => uptoBulk d + 1
  | .map entries => uptoBulkEntries entries + 1
  | .held _ => 1
def uptoBulkAll {H : Type} : List (DataW H) → Nat
  | [] => 0
  | d :: r => uptoBulk d + uptoBulkAll r
def uptoBulkEntries {H : Type} : List (Lit × DataW H) → Nat
  | [] => 0
  | x :: r => uptoBulkEntry x + uptoBulkEntries r
def uptoBulkEntry {H : Type} : Lit × DataW H → Nat
  | (.string bytes, d) => bytes.length + uptoBulk d + 1
  | (_, d) => uptoBulk d + 1
 end
def uptoSmall : (H : Type) → List (DataW H) → Bool := fun _ ds => decide (uptoBulkAll ds ≤ 1048576)
def OpenSpec.upto (s : _root_.Go.ChangeSpec) : _root_.Go.OpenSpec := { _root_.Go.OpenSpec.ofChange s with cond := some uptoSmall }

/-- 'sparselaw30.DiskFollows', WHERE WHAT IT READS IS OF BULK AT MOST 1048576: true; the input reads as it did. -/
def diskFollowsUptoRow : OpenClaim := { program := "ytgnpgikbdomdpaa", sum := "d94455f6d29e443f2b8dde508645aa10d0bedd72ac24ba42df78dc318423cc3a", func := "sparse/sparselaw30.DiskFollows", spec := "diskFollows", apart := false, narrowed := true }
def DiskFollowsUptoSaid : Prop := diskFollowsUptoRow.holds Try.pinned (OpenSpec.upto diskFollowsSpec)

/-- 'sparselaw30.DiskLimits', WHERE WHAT IT READS IS OF BULK AT MOST 1048576: true; the input reads as it did. -/
def diskLimitsUptoRow : OpenClaim := { program := "ytgnpgikbdomdpaa", sum := "d94455f6d29e443f2b8dde508645aa10d0bedd72ac24ba42df78dc318423cc3a", func := "sparse/sparselaw30.DiskLimits", spec := "diskLimits", apart := false, narrowed := true }
def DiskLimitsUptoSaid : Prop := diskLimitsUptoRow.holds Try.pinned (OpenSpec.upto diskLimitsSpec)

/-- 'sparselaw30.DiskCopies', WHERE WHAT IT READS IS OF BULK AT MOST 1048576: true; the input reads as it did. -/
def diskCopiesUptoRow : OpenClaim := { program := "ytgnpgikbdomdpaa", sum := "d94455f6d29e443f2b8dde508645aa10d0bedd72ac24ba42df78dc318423cc3a", func := "sparse/sparselaw30.DiskCopies", spec := "diskCopies", apart := false, narrowed := true }
def DiskCopiesUptoSaid : Prop := diskCopiesUptoRow.holds Try.pinned (OpenSpec.upto diskCopiesSpec)

/-- 'sparselaw30.DiskSyncs', WHERE WHAT IT READS IS OF BULK AT MOST 1048576: true; the input reads as it did. -/
def diskSyncsUptoRow : OpenClaim := { program := "ytgnpgikbdomdpaa", sum := "d94455f6d29e443f2b8dde508645aa10d0bedd72ac24ba42df78dc318423cc3a", func := "sparse/sparselaw30.DiskSyncs", spec := "diskSyncs", apart := false, narrowed := true }
def DiskSyncsUptoSaid : Prop := diskSyncsUptoRow.holds Try.pinned (OpenSpec.upto diskSyncsSpec)

/-- 'sparselaw30.DiskNil', WHERE WHAT IT READS IS OF BULK AT MOST 1048576: true; the input reads as it did. -/
def diskNilUptoRow : OpenClaim := { program := "ytgnpgikbdomdpaa", sum := "d94455f6d29e443f2b8dde508645aa10d0bedd72ac24ba42df78dc318423cc3a", func := "sparse/sparselaw30.DiskNil", spec := "diskNil", apart := false, narrowed := true }
def DiskNilUptoSaid : Prop := diskNilUptoRow.holds Try.pinned (OpenSpec.upto diskNilSpec)

/-- 'sparselaw31.JournalLimits', WHERE WHAT IT READS IS OF BULK AT MOST 1048576: true; the input reads as it did. -/
def journalLimitsUptoRow : OpenClaim := { program := "ytgnpgikbdomdpaa", sum := "d94455f6d29e443f2b8dde508645aa10d0bedd72ac24ba42df78dc318423cc3a", func := "sparse/sparselaw31.JournalLimits", spec := "journalLimits", apart := false, narrowed := true }
def JournalLimitsUptoSaid : Prop := journalLimitsUptoRow.holds Try.pinned (OpenSpec.upto journalLimitsSpec)

/-- 'sparselaw31.JournalPrefix', WHERE WHAT IT READS IS OF BULK AT MOST 1048576: true; the input reads as it did. -/
def journalPrefixUptoRow : OpenClaim := { program := "ytgnpgikbdomdpaa", sum := "d94455f6d29e443f2b8dde508645aa10d0bedd72ac24ba42df78dc318423cc3a", func := "sparse/sparselaw31.JournalPrefix", spec := "journalPrefix", apart := false, narrowed := true }
def JournalPrefixUptoSaid : Prop := journalPrefixUptoRow.holds Try.pinned (OpenSpec.upto journalPrefixSpec)

/-- 'sparselaw31.JournalNil', WHERE WHAT IT READS IS OF BULK AT MOST 1048576: true; the input reads as it did. -/
def journalNilUptoRow : OpenClaim := { program := "ytgnpgikbdomdpaa", sum := "d94455f6d29e443f2b8dde508645aa10d0bedd72ac24ba42df78dc318423cc3a", func := "sparse/sparselaw31.JournalNil", spec := "journalNil", apart := false, narrowed := true }
def JournalNilUptoSaid : Prop := journalNilUptoRow.holds Try.pinned (OpenSpec.upto journalNilSpec)

/-- 'sparselaw31.JournalOpens', WHERE WHAT IT READS IS OF BULK AT MOST 1048576: true; the input reads as it did. -/
def journalOpensUptoRow : OpenClaim := { program := "ytgnpgikbdomdpaa", sum := "d94455f6d29e443f2b8dde508645aa10d0bedd72ac24ba42df78dc318423cc3a", func := "sparse/sparselaw31.JournalOpens", spec := "journalOpens", apart := false, narrowed := true }
def JournalOpensUptoSaid : Prop := journalOpensUptoRow.holds Try.pinned (OpenSpec.upto journalOpensSpec)

/-- 'sparselaw31.JournalFollows', WHERE WHAT IT READS IS OF BULK AT MOST 1048576: true; the input reads as it did. -/
def journalFollowsUptoRow : OpenClaim := { program := "ytgnpgikbdomdpaa", sum := "d94455f6d29e443f2b8dde508645aa10d0bedd72ac24ba42df78dc318423cc3a", func := "sparse/sparselaw31.JournalFollows", spec := "journalFollows", apart := false, narrowed := true }
def JournalFollowsUptoSaid : Prop := journalFollowsUptoRow.holds Try.pinned (OpenSpec.upto journalFollowsSpec)

end Rows
end Go.Proofs.Ytgnpgikbdomdpaa
