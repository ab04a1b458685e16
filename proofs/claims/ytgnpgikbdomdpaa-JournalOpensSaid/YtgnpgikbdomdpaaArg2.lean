/-
  An argument that is a slice, as the frame of a law hands it over.
-/
import Derived.Test.YtgnpgikbdomdpaaOb
import Derived.ProofKit
import Derived.OpenShut
import Derived.ShutString
import Derived.ChangeOld
import Derived.Below
namespace Go.Proofs.Ytgnpgikbdomdpaa
open Go.RowKit Go.ChangeShapes Go.WideShapes Go.Deep
set_option linter.unusedSimpArgs false
set_option linter.unusedVariables false
section
variable {H : Type} {enc : TypeId × Value → H} {W : World} {base : Nat} {d : DataW H} {p : List MemPlace}
theorem arg_bytes (v : Value) (k : DataW.Trod enc Try.prog W 0 (fun _ => true) true 33 v d p) (o : Value.okWide Try.prog W .any base 33 v) : ∃ s : List UInt8, SArg W v s.length (bytesV s) := by
  obtain ⟨n, hn⟩ := k
  obtain ⟨a, l, c, rfl⟩ := okWide_slice Try.underlying33 o
  obtain ⟨v', s, h1, h2⟩ := open_bytes Try.underlying33 Try.underlying5 (by kernel_rfl) hn
  simp only [Value.cells, List.cons.injEq, and_true] at h1
  subst h1
  exact ⟨s, h2⟩
theorem arg_bools (v : Value) (k : DataW.Trod enc Try.prog W 0 (fun _ => true) true 34 v d p) (o : Value.okWide Try.prog W .any base 34 v) : ∃ s : List Bool, SArg W v s.length (s.map Value.bool) := by
  obtain ⟨n, hn⟩ := k
  obtain ⟨a, l, c, rfl⟩ := okWide_slice Try.underlying34 o
  obtain ⟨v', s, h1, h2⟩ := open_boolsS Try.underlying34 Try.underlying4 (by kernel_rfl) hn
  simp only [Value.cells, List.cons.injEq, and_true] at h1
  subst h1
  exact ⟨s, h2⟩
theorem arg_deeds (v : Value) (k : DataW.Trod enc Try.prog W 0 (fun _ => true) true 22 v d p) (o : Value.okWide Try.prog W .any base 22 v) : ∃ l : List Deed4, SArg W v l.length (l.flatMap Deed4.cells) ∧ ∀ x ∈ l, x.Ok W := by
  obtain ⟨n, hn⟩ := k
  obtain ⟨a, l, c, rfl⟩ := okWide_slice Try.underlying22 o
  obtain ⟨v', s, h1, h2, h3⟩ := open_all Deed4.cells (fun x => x.Ok W) 4 Try.underlying22 (by kernel_rfl) (fun n es y hl hy => deed4_el Try.underlying36 (by rfl) (by rfl) (by rfl) (by rfl) (by kernel_rfl) (by kernel_rfl) (by kernel_rfl) (by kernel_rfl) Try.underlying3 Try.underlying3 Try.underlying33 Try.underlying5 (by kernel_rfl) Try.underlying34 Try.underlying4 (by kernel_rfl) n es y hl hy) hn
  simp only [Value.cells, List.cons.injEq, and_true] at h1
  subst h1
  exact ⟨s, h2, h3⟩
end
end Go.Proofs.Ytgnpgikbdomdpaa
