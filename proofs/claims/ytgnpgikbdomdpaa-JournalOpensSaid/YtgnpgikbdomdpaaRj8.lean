/-
  The journal's laws: Flush; the deeds of an argument; Open and the document's Open agree.
-/
import Derived.Test.YtgnpgikbdomdpaaRj7
import Derived.Test.YtgnpgikbdomdpaaArg2
namespace Go.Proofs.Ytgnpgikbdomdpaa
open Go.RowKit Go.ChangeShapes Go.WideShapes Go.Deep
set_option linter.unusedSimpArgs false
set_option linter.unusedVariables false







set_option maxHeartbeats 4000000 in
set_option maxRecDepth 100000 in
theorem flush_any {w : World} {j b : Nat} {recs : List (List UInt8)} {next : Nat} {SJ : List Nat} {cur dur : List (List UInt8)} {pend : List (Nat × List UInt8)} {S : List Nat} (J : JAt j b recs next SJ w) (D : DRep w b cur dur pend S) :
    Calls Try.prog 32 #[.pointer (some ⟨j, 0, none⟩)] w fun e w' => e = .returned (.tuple #[]) ∧ Fr S w w' ∧ ∃ S', DRep w' b cur cur [] S' ∧ ∀ x ∈ S', x ∈ S := by
  obtain ⟨rv, hs, S1, S2, _, _, hj, _⟩ := J
  have hcell : w.cell? ⟨j, 0, none⟩ = some (.pointer (some ⟨b, 0, none⟩)) := by rw [cell_of_row w j _ _ _ _ hj]; rfl
  clear hj
  go_enter Try.func32, Try.ntmps32
  go_wp2_with (first | (refine is_load rfl ?_; refine wl_ev rfl (ev_load rfl rfl Sc.h hcell) ?_; (simp only [nrm, ↓reduceIte, Nat.reduceAdd])) | fail)
  go_loud (refine Calls.mono (sync_any D) ?_)
  rintro e w1 ⟨rfl, hF, S', D', hS'⟩
  go_wp2_with fail
  go_end0
  exact ⟨rfl, hF, S', D', hS'⟩
/-- A number, a slice of bytes, a number, a slice of bools in one element. -/
structure DeedJ where
  kind : Int
  dv : Value
  long : Int
  kv : Value
instance : Inhabited DeedJ := ⟨⟨0, .nilFunc, 0, .nilFunc⟩⟩
def DeedJ.cells (d : DeedJ) : List Value := [.int .i64 d.kind, d.dv, .int .i64 d.long, d.kv]
structure DeedJ.Ok (w : World) (d : DeedJ) : Prop where
  data : ∃ s : List UInt8, SArg w d.dv s.length (bytesV s)
  keep : ∃ s : List Bool, SArg w d.kv s.length (s.map Value.bool)
theorem deedJ_el {H : Type} {enc : TypeId × Value → H} {P : Program} {w : World} {base : Nat} {held : Bool} {e u b : TypeId} {f0 f1 f2 f3 : Field} (hs : P.underlying e = some (.struct #[f0, f1, f2, f3])) (o0 : f0.offset = 0) (o1 : f1.offset = 1) (o2 : f2.offset = 2) (o3 : f3.offset = 3)
    (c0 : P.cellsOf f0.type = 1) (c1 : P.cellsOf f1.type = 1) (c2 : P.cellsOf f2.type = 1) (c3 : P.cellsOf f3.type = 1) (t0 : P.underlying f0.type = some (.int .i64)) (t2 : P.underlying f2.type = some (.int .i64))
    (t1 : P.underlying f1.type = some (.slice u)) (u2 : P.underlying u = some (.int .u8)) (cu : P.cellsOf u = 1) (t3 : P.underlying f3.type = some (.slice b)) (u3 : P.underlying b = some .bool) (cb : P.cellsOf b = 1)
    (n : Nat) (es : List Value) (y : DataW H × List MemPlace) (hl : es.length = 4) (hy : DataW.trod enc P w base (fun _ => true) held n e es = some y) : ∃ d : DeedJ, es = d.cells ∧ d.Ok w := by
  obtain ⟨xs, m, _, _, _, hlen, hf⟩ := DataW.trod_struct hs hy
  match es, hl with
  | [a0, a1, a2, a3], _ =>
    match xs, hlen with
    | [y0, y1, y2, y3], _ =>
      have g0 := hf 0 f0 rfl
      have g1 := hf 1 f1 rfl
      have g2 := hf 2 f2 rfl
      have g3 := hf 3 f3 rfl
      rw [o0, c0] at g0
      rw [o1, c1] at g1
      rw [o2, c2] at g2
      rw [o3, c3] at g3
      obtain ⟨n0, h0, _, w0⟩ := DataW.trod_int t0 g0
      obtain ⟨n2, h2, _, w2⟩ := DataW.trod_int t2 g2
      obtain ⟨v1, s1, h1, q1⟩ := open_bytes t1 u2 cu g1
      obtain ⟨v3, s3, h3, q3⟩ := open_boolsS t3 u3 cb g3
      simp at h0 h1 h2 h3
      subst h0 h1 h2 h3
      exact ⟨⟨n0, a1, n2, a3⟩, rfl, ⟨s1, q1⟩, ⟨s3, q3⟩⟩
theorem arg_deedsJ {H : Type} {enc : TypeId × Value → H} {W : World} {base : Nat} {d : DataW H} {p : List MemPlace} (v : Value) (k : DataW.Trod enc Try.prog W 0 (fun _ => true) true 55 v d p) (o : Value.okWide Try.prog W .any base 55 v) : ∃ l : List DeedJ, SArg W v l.length (l.flatMap DeedJ.cells) ∧ ∀ x ∈ l, x.Ok W := by
  obtain ⟨n, hn⟩ := k
  obtain ⟨a, l, c, rfl⟩ := okWide_slice Try.underlying55 o
  obtain ⟨v', s, h1, h2, h3⟩ := open_all DeedJ.cells (fun x => x.Ok W) 4 Try.underlying55 (by kernel_rfl) (fun n es y hl hy => deedJ_el Try.underlying59 (by rfl) (by rfl) (by rfl) (by rfl) (by kernel_rfl) (by kernel_rfl) (by kernel_rfl) (by kernel_rfl) Try.underlying3 Try.underlying3 Try.underlying33 Try.underlying5 (by kernel_rfl) Try.underlying34 Try.underlying4 (by kernel_rfl) n es y hl hy) hn
  simp only [Value.cells, List.cons.injEq, and_true] at h1
  subst h1
  exact ⟨s, h2, h3⟩
/-- Open and the document's Open leave the same disk. -/
theorem open_agree (dur : List (List UInt8)) (pend : List (Nat × List UInt8)) : openD (syncD pend dur) dur pend = (syncD (openRD (syncD pend dur) dur pend).2 (openRD (syncD pend dur) dur pend).1, openRD (syncD pend dur) dur pend) := by
  unfold openD openRD
  have h := clears_sync dur pend (openR (syncD pend dur)).2 ((syncD pend dur).length - (openR (syncD pend dur)).2)
  simp only
  split
  · rfl
  · rw [h]
end Go.Proofs.Ytgnpgikbdomdpaa
