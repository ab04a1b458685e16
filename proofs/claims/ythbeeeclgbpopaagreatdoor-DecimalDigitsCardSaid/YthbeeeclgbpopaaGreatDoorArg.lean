/-
  What an argument that can be read as data says of the memory: bytes, bools.
-/
import Derived.Test.YthbeeeclgbpopaaGreatDoorEv
import Derived.Deep.Strs
import Derived.ChangeSlices
import Derived.ChangeOld
namespace Go.Proofs.YthbeeeclgbpopaaGreatDoor
open Go.RowKit Go.ChangeShapes Go.WideShapes Go.Deep
set_option linter.unusedSimpArgs false
set_option linter.unusedVariables false
/-- A slice value that reads the cells cs now, and in every later world that leaves the old blocks alone. -/
def SArg (w : World) (v : Value) (n : Nat) (cs : List Value) : Prop :=
  ∃ p c, v = .slice p n c ∧ (p = none → c = 0) ∧ n ≤ c ∧ c ≤ maxLen ∧ ∀ w', Fr [] w w' → Rd w' v n cs
section
variable {H : Type} {enc : TypeId × Value → H} {P : Program} {w : World} {base : Nat} {held : Bool}
theorem flat_at {α : Type} (f : α → List Value) (C : Nat) : ∀ (xs : List α) (_ : ∀ x ∈ xs, (f x).length = C) (j : Nat) (u : Value), (xs.flatMap f)[j]? = some u → ∃ i x k, xs[i]? = some x ∧ k < C ∧ j = i * C + k ∧ (f x)[k]? = some u
  | [], _, j, u, h => by simp at h
  | x :: xs, hl, j, u, h => by
    rw [List.flatMap_cons] at h
    by_cases hj : j < C
    · rw [List.getElem?_append_left (by rw [hl x (by simp)]; exact hj)] at h
      exact ⟨0, x, j, rfl, hj, by omega, h⟩
    · rw [List.getElem?_append_right (by rw [hl x (by simp)]; omega), hl x (by simp)] at h
      obtain ⟨i, y, k, h1, h2, h3, h4⟩ := flat_at f C xs (fun z hz => hl z (List.mem_cons_of_mem _ hz)) (j - C) u h
      exact ⟨i + 1, y, k, by simpa using h1, h2, by rw [Nat.add_mul]; omega, h4⟩
/-- A slice opened: every element's cells are those of some x of which Q holds. -/
theorem open_all {α : Type} [Inhabited α] (f : α → List Value) (Q : α → Prop) (C : Nat) {t e : TypeId} {fuel : Nat} {cs : List Value} {x : DataW H × List MemPlace} (ht : P.underlying t = some (.slice e)) (hc : P.cellsOf e = C)
    (hel : ∀ n es y, es.length = C → DataW.trod enc P w base (fun _ => true) held n e es = some y → ∃ a, es = f a ∧ Q a)
    (h : DataW.trod enc P w base (fun _ => true) held fuel t cs = some x) : ∃ (v : Value) (xs : List α), cs = [v] ∧ SArg w v xs.length (xs.flatMap f) ∧ ∀ a ∈ xs, Q a := by
  rcases open_slice ht h with ⟨rfl, rfl⟩ | ⟨a, len, cap, m, n, D, Pl, rfl, hb, hl, hm, hmm, rfl, hx⟩
  · exact ⟨_, [], rfl, ⟨none, 0, rfl, fun _ => rfl, Nat.le_refl _, Nat.zero_le _, fun w' _ => .inl ⟨rfl, rfl, _, _, rfl⟩⟩, by simp⟩
  · simp only [if_true] at hmm
    subst hmm
    rw [hc] at hx
    obtain ⟨V, hV⟩ := choose_lt (α := α) (p := fun i y => (w.cells? base (a.add (i * C)) C = some (f y)) ∧ (f y).length = C ∧ Q y) (fun i hi => by
      obtain ⟨es, h1, h2⟩ := hx i hi
      obtain ⟨_, h3, _⟩ := World.cells?_some h1
      obtain ⟨y, rfl, hq⟩ := hel _ _ _ h3 h2
      exact ⟨y, h1, h3, hq⟩)
    refine ⟨_, (List.range len).map V, rfl, ⟨some a, m, by simp, by simp, by simpa using hl, hm, fun w' k => ?_⟩, ?_⟩
    · refine .inr ⟨a, m, by simp, fun j u hj => ?_⟩
      obtain ⟨i, y, k', h1, h2, h3, h4⟩ := flat_at f C _ (by
        intro z hz
        obtain ⟨i, hi, rfl⟩ := List.mem_map.1 hz
        exact (hV i (by have := List.mem_range.1 hi; omega)).2.1) j u hj
      have hi : i < len := by
        have := (List.getElem?_eq_some_iff.1 h1).1
        simpa using this
      rw [List.getElem?_map, List.getElem?_range hi] at h1
      simp only [Option.map_some, Option.some.injEq] at h1
      subst h1
      obtain ⟨_, _, h5⟩ := World.cells?_some (hV i (by omega)).1
      have h6 := h5 k' h2
      rw [h4, add_add] at h6
      rw [h3]
      exact k.cell h6 (by simp)
    · intro y hy
      obtain ⟨i, hi, rfl⟩ := List.mem_map.1 hy
      exact (hV i (by have := List.mem_range.1 hi; omega)).2.2
theorem open_bytes {t e : TypeId} {fuel : Nat} {cs : List Value} {x : DataW H × List MemPlace} (ht : P.underlying t = some (.slice e)) (he : P.underlying e = some (.int .u8)) (hc : P.cellsOf e = 1)
    (h : DataW.trod enc P w base (fun _ => true) held fuel t cs = some x) : ∃ (v : Value) (s : List UInt8), cs = [v] ∧ SArg w v s.length (bytesV s) := by
  obtain ⟨v, xs, h1, h2, _⟩ := open_all (fun b : UInt8 => [Value.int .u8 b.toNat]) (fun _ => True) 1 ht hc (fun n es y hl hy => by
    obtain ⟨z, rfl, _, hw⟩ := DataW.trod_int he hy
    have hz : 0 ≤ z ∧ z < 256 := by simp [Lit.wf, IntKind.min, IntKind.max, IntKind.bits, IntKind.signed] at hw; omega
    refine ⟨UInt8.ofNat z.toNat, ?_, trivial⟩
    have : ((UInt8.ofNat z.toNat).toNat : Int) = z := by rw [UInt8.toNat_ofNat']; omega
    rw [this]) h
  refine ⟨v, xs, h1, ?_⟩
  have : bytesV xs = xs.flatMap fun b => [Value.int .u8 b.toNat] := by unfold bytesV; rw [List.map_eq_flatMap]
  rw [this]; exact h2
theorem open_boolsS {t e : TypeId} {fuel : Nat} {cs : List Value} {x : DataW H × List MemPlace} (ht : P.underlying t = some (.slice e)) (he : P.underlying e = some .bool) (hc : P.cellsOf e = 1)
    (h : DataW.trod enc P w base (fun _ => true) held fuel t cs = some x) : ∃ (v : Value) (s : List Bool), cs = [v] ∧ SArg w v s.length (s.map Value.bool) := by
  obtain ⟨v, xs, h1, h2, _⟩ := open_all (fun b : Bool => [Value.bool b]) (fun _ => True) 1 ht hc (fun n es y hl hy => by
    obtain ⟨z, rfl, _⟩ := DataW.trod_bool he hy
    exact ⟨z, rfl, trivial⟩) h
  refine ⟨v, xs, h1, ?_⟩
  have : xs.map Value.bool = xs.flatMap fun b => [Value.bool b] := by rw [List.map_eq_flatMap]
  rw [this]; exact h2
/-- Two numbers, a slice of bytes, a slice of bools in one element. -/
structure Deed4 where
  kind : Int
  i : Int
  dv : Value
  kv : Value
instance : Inhabited Deed4 := ⟨⟨0, 0, .nilFunc, .nilFunc⟩⟩
def Deed4.cells (d : Deed4) : List Value := [.int .i64 d.kind, .int .i64 d.i, d.dv, d.kv]
structure Deed4.Ok (w : World) (d : Deed4) : Prop where
  kind : (Lit.int .i64 d.kind).wf = true
  i : (Lit.int .i64 d.i).wf = true
  data : ∃ s : List UInt8, SArg w d.dv s.length (bytesV s)
  keep : ∃ s : List Bool, SArg w d.kv s.length (s.map Value.bool)
theorem deed4_el {e u b : TypeId} {f0 f1 f2 f3 : Field} (hs : P.underlying e = some (.struct #[f0, f1, f2, f3])) (o0 : f0.offset = 0) (o1 : f1.offset = 1) (o2 : f2.offset = 2) (o3 : f3.offset = 3)
    (c0 : P.cellsOf f0.type = 1) (c1 : P.cellsOf f1.type = 1) (c2 : P.cellsOf f2.type = 1) (c3 : P.cellsOf f3.type = 1) (t0 : P.underlying f0.type = some (.int .i64)) (t1 : P.underlying f1.type = some (.int .i64))
    (t2 : P.underlying f2.type = some (.slice u)) (u2 : P.underlying u = some (.int .u8)) (cu : P.cellsOf u = 1) (t3 : P.underlying f3.type = some (.slice b)) (u3 : P.underlying b = some .bool) (cb : P.cellsOf b = 1)
    (n : Nat) (es : List Value) (y : DataW H × List MemPlace) (hl : es.length = 4) (hy : DataW.trod enc P w base (fun _ => true) held n e es = some y) : ∃ d : Deed4, es = d.cells ∧ d.Ok w := by
  obtain ⟨xs, m, _, _, _, hlen, hf⟩ := DataW.trod_struct hs hy
  match es, hl with
  | [a0, a1, a2, a3], _ =>
    match xs, hlen with
    | [y0, y1, y2, y3], _ =>
      have g0 := hf 0 f0 rfl
      have g1 := hf 1 f1 rfl
      have g2 := hf 2 f2 rfl
      have g3 := hf 3 f3 rfl
      rw [o0, c0] at g0
      rw [o1, c1] at g1
      rw [o2, c2] at g2
      rw [o3, c3] at g3
      obtain ⟨n0, h0, _, w0⟩ := DataW.trod_int t0 g0
      obtain ⟨n1, h1, _, w1⟩ := DataW.trod_int t1 g1
      obtain ⟨v2, s2, h2, q2⟩ := open_bytes t2 u2 cu g2
      obtain ⟨v3, s3, h3, q3⟩ := open_boolsS t3 u3 cb g3
      simp at h0 h1 h2 h3
      subst h0 h1 h2 h3
      exact ⟨⟨n0, n1, a2, a3⟩, rfl, w0, w1, ⟨s2, q2⟩, ⟨s3, q3⟩⟩
end
end Go.Proofs.YthbeeeclgbpopaaGreatDoor
