/-
  No cell of these rows narrows 'for every input' (looked for: loops, veiled, ifaces, maps, wideKeys, modest, calm, conditions, laid).
  DERIVED. THE GIVEN ROWS OF THIS SEAT. 6 by the template 'for every input the law returns true; each argument reads behind the call as it read before'; 0 by the template 'total and deterministic' (their statements: YthlhjjokodmihaaTotals.lean).
  GIVEN WITH THE SEED: the statements are not yours to turn. If you find one false, say at which input.
  Laid BY PROGRAM, IN A SANDBOX (cutbox-rows.mjs): the forced cells as the released guide's own fill.sh prints them over the translation 5f1630dec11049cd… (all of the seat's roots in one cut). By AI agents, Wed Nov 11 2026. No macro, syntax, notation, axiom, sorry.
-/
import Derived.Test.YthlhjjokodmihaaChecked
import GoSem.Claim
import GoSem.ClaimJoined
import GoSem.ClaimMapViews
import Derived.JoinedTies
import Derived.KernelRfl
namespace Go.Proofs.Ythlhjjokodmihaa
/- THE CELL 'sum', in the pinned program and in every row, IS THE sha256 OF THE DUMP (.gsa) THAT YthlhjjokodmihaaProg.lean LOADS. Nothing in Lean hashes anything: it is a label: what it is worth is what the hold of that sum in a sandbox is worth. -/
noncomputable def Try.pinned : Pinned := { name := "ythlhjjokodmihaa", sum := "5f1630dec11049cd4b0080c1a41d70d6ef5e2498a9ebc938ce1e94af11005b4f", checked := Try.checked }
namespace Rows
def none {H : Type} : Left H := { results := [], args := [] }

/-- 'sparselaw33.PoolRefuses': WHATEVER THE INPUT: true; the input reads as it did. -/
def poolRefusesSpec : ChangeSpec := { name := "poolRefuses", fn := fun _ => fun
  | [d1, d2, d3, d4, d5, d6, d7] => { results := [.lit (.bool true)], args := [d1, d2, d3, d4, d5, d6, d7] }
  | _ => none }
def poolRefusesRow : OpenClaim := { program := "ythlhjjokodmihaa", sum := "5f1630dec11049cd4b0080c1a41d70d6ef5e2498a9ebc938ce1e94af11005b4f", func := "sparse/sparselaw33.PoolRefuses", spec := "poolRefuses", apart := false }
def PoolRefusesSaid : Prop := poolRefusesRow.holds Try.pinned (OpenSpec.ofChange poolRefusesSpec)

/-- ITS FALSE NEIGHBOUR: 'it returns false'. Refute it at one input. -/
def poolRefusesWrong : ChangeSpec := { name := "poolRefuses", fn := fun _ => fun
  | [d1, d2, d3, d4, d5, d6, d7] => { results := [.lit (.bool false)], args := [d1, d2, d3, d4, d5, d6, d7] }
  | _ => none }
def PoolRefusesWrongFalsely : Prop := poolRefusesRow.holds Try.pinned (OpenSpec.ofChange poolRefusesWrong)

/-- 'sparselaw33.PoolEnds': WHATEVER THE INPUT: true; the input reads as it did. -/
def poolEndsSpec : ChangeSpec := { name := "poolEnds", fn := fun _ => fun
  | [d1, d2, d3, d4] => { results := [.lit (.bool true)], args := [d1, d2, d3, d4] }
  | _ => none }
def poolEndsRow : OpenClaim := { program := "ythlhjjokodmihaa", sum := "5f1630dec11049cd4b0080c1a41d70d6ef5e2498a9ebc938ce1e94af11005b4f", func := "sparse/sparselaw33.PoolEnds", spec := "poolEnds", apart := false }
def PoolEndsSaid : Prop := poolEndsRow.holds Try.pinned (OpenSpec.ofChange poolEndsSpec)

/-- ITS FALSE NEIGHBOUR: 'it returns false'. Refute it at one input. -/
def poolEndsWrong : ChangeSpec := { name := "poolEnds", fn := fun _ => fun
  | [d1, d2, d3, d4] => { results := [.lit (.bool false)], args := [d1, d2, d3, d4] }
  | _ => none }
def PoolEndsWrongFalsely : Prop := poolEndsRow.holds Try.pinned (OpenSpec.ofChange poolEndsWrong)

/-- 'sparselaw33.PoolOnce': WHATEVER THE INPUT: true; the input reads as it did. -/
def poolOnceSpec : ChangeSpec := { name := "poolOnce", fn := fun _ => fun
  | [d1, d2, d3, d4] => { results := [.lit (.bool true)], args := [d1, d2, d3, d4] }
  | _ => none }
def poolOnceRow : OpenClaim := { program := "ythlhjjokodmihaa", sum := "5f1630dec11049cd4b0080c1a41d70d6ef5e2498a9ebc938ce1e94af11005b4f", func := "sparse/sparselaw33.PoolOnce", spec := "poolOnce", apart := false }
def PoolOnceSaid : Prop := poolOnceRow.holds Try.pinned (OpenSpec.ofChange poolOnceSpec)

/-- ITS FALSE NEIGHBOUR: 'it returns false'. Refute it at one input. -/
def poolOnceWrong : ChangeSpec := { name := "poolOnce", fn := fun _ => fun
  | [d1, d2, d3, d4] => { results := [.lit (.bool false)], args := [d1, d2, d3, d4] }
  | _ => none }
def PoolOnceWrongFalsely : Prop := poolOnceRow.holds Try.pinned (OpenSpec.ofChange poolOnceWrong)

/-- 'sparselaw33.PoolFollows': WHATEVER THE INPUT: true; the input reads as it did. -/
def poolFollowsSpec : ChangeSpec := { name := "poolFollows", fn := fun _ => fun
  | [d1, d2, d3, d4] => { results := [.lit (.bool true)], args := [d1, d2, d3, d4] }
  | _ => none }
def poolFollowsRow : OpenClaim := { program := "ythlhjjokodmihaa", sum := "5f1630dec11049cd4b0080c1a41d70d6ef5e2498a9ebc938ce1e94af11005b4f", func := "sparse/sparselaw33.PoolFollows", spec := "poolFollows", apart := false }
def PoolFollowsSaid : Prop := poolFollowsRow.holds Try.pinned (OpenSpec.ofChange poolFollowsSpec)

/-- ITS FALSE NEIGHBOUR: 'it returns false'. Refute it at one input. -/
def poolFollowsWrong : ChangeSpec := { name := "poolFollows", fn := fun _ => fun
  | [d1, d2, d3, d4] => { results := [.lit (.bool false)], args := [d1, d2, d3, d4] }
  | _ => none }
def PoolFollowsWrongFalsely : Prop := poolFollowsRow.holds Try.pinned (OpenSpec.ofChange poolFollowsWrong)

/-- 'sparselaw33.PoolResumes': WHATEVER THE INPUT: true; the input reads as it did. -/
def poolResumesSpec : ChangeSpec := { name := "poolResumes", fn := fun _ => fun
  | [d1, d2, d3, d4, d5, d6, d7] => { results := [.lit (.bool true)], args := [d1, d2, d3, d4, d5, d6, d7] }
  | _ => none }
def poolResumesRow : OpenClaim := { program := "ythlhjjokodmihaa", sum := "5f1630dec11049cd4b0080c1a41d70d6ef5e2498a9ebc938ce1e94af11005b4f", func := "sparse/sparselaw33.PoolResumes", spec := "poolResumes", apart := false }
def PoolResumesSaid : Prop := poolResumesRow.holds Try.pinned (OpenSpec.ofChange poolResumesSpec)

/-- ITS FALSE NEIGHBOUR: 'it returns false'. Refute it at one input. -/
def poolResumesWrong : ChangeSpec := { name := "poolResumes", fn := fun _ => fun
  | [d1, d2, d3, d4, d5, d6, d7] => { results := [.lit (.bool false)], args := [d1, d2, d3, d4, d5, d6, d7] }
  | _ => none }
def PoolResumesWrongFalsely : Prop := poolResumesRow.holds Try.pinned (OpenSpec.ofChange poolResumesWrong)

/-- 'sparselaw33.PoolNil': WHATEVER THE INPUT: true; the input reads as it did. -/
def poolNilSpec : ChangeSpec := { name := "poolNil", fn := fun _ => fun
  | [d] => { results := [.lit (.bool true)], args := [d] }
  | _ => none }
def poolNilRow : OpenClaim := { program := "ythlhjjokodmihaa", sum := "5f1630dec11049cd4b0080c1a41d70d6ef5e2498a9ebc938ce1e94af11005b4f", func := "sparse/sparselaw33.PoolNil", spec := "poolNil", apart := false }
def PoolNilSaid : Prop := poolNilRow.holds Try.pinned (OpenSpec.ofChange poolNilSpec)

/-- ITS FALSE NEIGHBOUR: 'it returns false'. Refute it at one input. -/
def poolNilWrong : ChangeSpec := { name := "poolNil", fn := fun _ => fun
  | [d] => { results := [.lit (.bool false)], args := [d] }
  | _ => none }
def PoolNilWrongFalsely : Prop := poolNilRow.holds Try.pinned (OpenSpec.ofChange poolNilWrong)

/- THE SECOND FORM. 'bulk': how many values and letters a reading holds, each counted each time it is reached (what is shared counts as often as it is met; a slice's spare places count too). A statement '..UptoSaid' is the law's where the arguments, and the package variables that the reading takes, are together of bulk at most 1048576: NARROWER than '..Said'. Prove '..Said' where nothing that the law and all that it calls make is longer than what came in: it says more and counts as full. Else prove '..UptoSaid'. A law counts once. -/
mutual
def uptoBulk {H : Type} : DataW H → Nat
  | .lit (.string bytes) => bytes.length + 1
  | .lit _ => 1
  | .nil => 1
  | .ptr d => uptoBulk d + 1
  | .slice elems spare => uptoBulkAll elems + uptoBulkAll spare + 1
  | .agg parts => uptoBulkAll parts + 1
  | .iface _ d => uptoBulk d + 1
  | .map entries => uptoBulkEntries entries + 1
  | .held _ => 1
def uptoBulkAll {H : Type} : List (DataW H) → Nat
  | [] => 0
  | d :: r => uptoBulk d + uptoBulkAll r
def uptoBulkEntries {H : Type} : List (Lit × DataW H) → Nat
  | [] => 0
  | x :: r => uptoBulkEntry x + uptoBulkEntries r
def uptoBulkEntry {H : Type} : Lit × DataW H → Nat
  | (.string bytes, d) => bytes.length + uptoBulk d + 1
  | (_, d) => uptoBulk d + 1
 end
def uptoSmall : (H : Type) → List (DataW H) → Bool := fun _ ds => decide (uptoBulkAll ds ≤ 1048576)
def OpenSpec.upto (s : _root_.Go.ChangeSpec) : _root_.Go.OpenSpec := { _root_.Go.OpenSpec.ofChange s with cond := some uptoSmall }

/-- 'sparselaw33.PoolRefuses', WHERE WHAT IT READS IS OF BULK AT MOST 1048576: true; the input reads as it did. -/
def poolRefusesUptoRow : OpenClaim := { program := "ythlhjjokodmihaa", sum := "5f1630dec11049cd4b0080c1a41d70d6ef5e2498a9ebc938ce1e94af11005b4f", func := "sparse/sparselaw33.PoolRefuses", spec := "poolRefuses", apart := false, narrowed := true }
def PoolRefusesUptoSaid : Prop := poolRefusesUptoRow.holds Try.pinned (OpenSpec.upto poolRefusesSpec)

/-- 'sparselaw33.PoolEnds', WHERE WHAT IT READS IS OF BULK AT MOST 1048576: true; the input reads as it did. -/
def poolEndsUptoRow : OpenClaim := { program := "ythlhjjokodmihaa", sum := "5f1630dec11049cd4b0080c1a41d70d6ef5e2498a9ebc938ce1e94af11005b4f", func := "sparse/sparselaw33.PoolEnds", spec := "poolEnds", apart := false, narrowed := true }
def PoolEndsUptoSaid : Prop := poolEndsUptoRow.holds Try.pinned (OpenSpec.upto poolEndsSpec)

/-- 'sparselaw33.PoolOnce', WHERE WHAT IT READS IS OF BULK AT MOST 1048576: true; the input reads as it did. -/
def poolOnceUptoRow : OpenClaim := { program := "ythlhjjokodmihaa", sum := "5f1630dec11049cd4b0080c1a41d70d6ef5e2498a9ebc938ce1e94af11005b4f", func := "sparse/sparselaw33.PoolOnce", spec := "poolOnce", apart := false, narrowed := true }
def PoolOnceUptoSaid : Prop := poolOnceUptoRow.holds Try.pinned (OpenSpec.upto poolOnceSpec)

/-- 'sparselaw33.PoolFollows', WHERE WHAT IT READS IS OF BULK AT MOST 1048576: true; the input reads as it did. -/
def poolFollowsUptoRow : OpenClaim := { program := "ythlhjjokodmihaa", sum := "5f1630dec11049cd4b0080c1a41d70d6ef5e2498a9ebc938ce1e94af11005b4f", func := "sparse/sparselaw33.PoolFollows", spec := "poolFollows", apart := false, narrowed := true }
def PoolFollowsUptoSaid : Prop := poolFollowsUptoRow.holds Try.pinned (OpenSpec.upto poolFollowsSpec)

/-- 'sparselaw33.PoolResumes', WHERE WHAT IT READS IS OF BULK AT MOST 1048576: true; the input reads as it did. -/
def poolResumesUptoRow : OpenClaim := { program := "ythlhjjokodmihaa", sum := "5f1630dec11049cd4b0080c1a41d70d6ef5e2498a9ebc938ce1e94af11005b4f", func := "sparse/sparselaw33.PoolResumes", spec := "poolResumes", apart := false, narrowed := true }
def PoolResumesUptoSaid : Prop := poolResumesUptoRow.holds Try.pinned (OpenSpec.upto poolResumesSpec)

/-- 'sparselaw33.PoolNil', WHERE WHAT IT READS IS OF BULK AT MOST 1048576: true; the input reads as it did. -/
def poolNilUptoRow : OpenClaim := { program := "ythlhjjokodmihaa", sum := "5f1630dec11049cd4b0080c1a41d70d6ef5e2498a9ebc938ce1e94af11005b4f", func := "sparse/sparselaw33.PoolNil", spec := "poolNil", apart := false, narrowed := true }
def PoolNilUptoSaid : Prop := poolNilUptoRow.holds Try.pinned (OpenSpec.upto poolNilSpec)

end Rows
end Go.Proofs.Ythlhjjokodmihaa
