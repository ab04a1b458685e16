/-
  The pool's laws: arguments; what the deeds keep.
-/
import Derived.Test.YthlhjjokodmihaaPe3
import Derived.Test.YthlhjjokodmihaaPf2
namespace Go.Proofs.Ythlhjjokodmihaa
open Go.RowKit
set_option linter.unusedSimpArgs false
set_option linter.unusedVariables false
theorem take_pt (s : PS) (w : Int) : (take s w).2.par = s.par ∧ (take s w).2.tas.length = s.tas.length := by
  unfold take
  split
  · exact ⟨rfl, rfl⟩
  split
  · exact ⟨rfl, rfl⟩
  simp only
  split
  · exact ⟨rfl, List.length_set ..⟩
  · exact ⟨rfl, rfl⟩
theorem end_pt (s : PS) (w x : Int) : (endW s w x).2.par = s.par ∧ (endW s w x).2.tas.length = s.tas.length := by
  have h : (ended s w x).par = s.par ∧ (ended s w x).tas.length = s.tas.length := ⟨rfl, List.length_set ..⟩
  unfold endW
  split
  · exact ⟨rfl, rfl⟩
  split
  · exact ⟨rfl, rfl⟩
  simp only
  split
  · have := release_par (ended s w x) (s.par[(runW s w).toNat]?.getD 0).toNat
    exact ⟨by rw [this.1]; exact h.1, by rw [this.2.2.1]; exact h.2⟩
  · exact h
theorem lose_pt (s : PS) (w : Int) : (lose s w).2.par = s.par ∧ (lose s w).2.tas.length = s.tas.length := by
  unfold lose
  split
  · exact ⟨rfl, rfl⟩
  split
  · exact ⟨rfl, rfl⟩
  simp only
  split
  · exact ⟨rfl, List.length_set ..⟩
  · exact ⟨rfl, rfl⟩
theorem join_pt (s : PS) (w : Int) : (join s w).2.par = s.par ∧ (join s w).2.tas.length = s.tas.length := by
  unfold join
  split
  · exact ⟨rfl, rfl⟩
  split <;> exact ⟨rfl, rfl⟩
theorem PW_of {A : PA} {s : PS} {w : World} (h : PoolIn A s w) : PW s := h.wf
theorem round_pt (s : PS) : ∀ j, (roundF s j).par = s.par ∧ (roundF s j).tas.length = s.tas.length
  | 0 => ⟨rfl, rfl⟩
  | j + 1 => by
    have ih := round_pt s j
    rw [roundF_succ]
    have h1 := take_pt (roundF s j) j
    have h2 := end_pt (take (roundF s j) j).2 j 3
    exact ⟨by show (endW (take (roundF s j) j).2 j 3).2.par = _; rw [h2.1, h1.1, ih.1], by show (endW (take (roundF s j) j).2 j 3).2.tas.length = _; rw [h2.2, h1.2, ih.2]⟩
/-- What the laws keep of a pool. -/
structure PK (par : List Int) (k : Nat) (s : PS) : Prop where
  pi : PI s
  par : s.par = par
  tas : s.tas.length = k
theorem PK.take {par : List Int} {k : Nat} {s : PS} (h : PK par k s) (hw : PW s) (w : Int) : PK par k (Go.Proofs.Ythlhjjokodmihaa.take s w).2 := ⟨PI_takeW hw h.pi w, by rw [(take_pt s w).1]; exact h.par, by rw [(take_pt s w).2]; exact h.tas⟩
theorem PK.fin {par : List Int} {k : Nat} {s : PS} (h : PK par k s) (hw : PW s) (w : Int) : PK par k (endW s w 3).2 := ⟨PI_endW hw h.pi w, by rw [(end_pt s w 3).1]; exact h.par, by rw [(end_pt s w 3).2]; exact h.tas⟩
theorem PK.lose {par : List Int} {k : Nat} {s : PS} (h : PK par k s) (hw : PW s) (w : Int) (hw' : PW (Go.Proofs.Ythlhjjokodmihaa.lose s w).2) : PK par k (Go.Proofs.Ythlhjjokodmihaa.lose s w).2 := ⟨PI_lose hw h.pi w hw', by rw [(lose_pt s w).1]; exact h.par, by rw [(lose_pt s w).2]; exact h.tas⟩
theorem PK.join {par : List Int} {k : Nat} {s : PS} (h : PK par k s) (hw : PW s) (w : Int) (hw' : PW (Go.Proofs.Ythlhjjokodmihaa.join s w).2) : PK par k (Go.Proofs.Ythlhjjokodmihaa.join s w).2 := ⟨PI_join hw h.pi w hw', by rw [(join_pt s w).1]; exact h.par, by rw [(join_pt s w).2]; exact h.tas⟩
theorem new_anyN {w : World} {p q : Option Addr} {c d n : Nat} (par own : List Int) (k : Int) (hn : own.length = n) (hp : Rd w (.slice p par.length c) par.length (ints par)) (hpn : p = none → c = 0) (hpl : par.length ≤ 1000000) (hq : Rd w (.slice q n d) n (ints own)) (hqn : q = none → d = 0) (hol : n ≤ 1000000) :
    Calls Try.prog 10 #[.slice p par.length c, .slice q n d, .int .i64 k] w fun e w' => ∃ v, e = .returned (.tuple #[v, .int .i64 (checkP par own k)]) ∧ Fr [] w w' ∧
      (checkP par own k = 0 ∧ (∃ A : PA, v = .pointer (some ⟨A.b, 0, none⟩) ∧ PoolIn A (newS par own k) w' ∧ ∀ x ∈ A.S, w.heap.size ≤ x) ∨ checkP par own k ≠ 0 ∧ v = .pointer none) := by
  subst hn
  exact new_any par own k hp hpn hpl hq hqn hol
/-- A deed: two numbers. -/
def pairV (d : Int × Int) : List Value := [.int .i64 d.1, .int .i64 d.2]
open Go.ChangeShapes Go.WideShapes Go.Deep in
theorem arg_u64s {H : Type} {enc : TypeId × Value → H} {W : World} {base : Nat} {d : DataW H} {p : List MemPlace} (v : Value) (k : DataW.Trod enc Try.prog W 0 (fun _ => true) true 23 v d p) (o : Value.okWide Try.prog W .any base 23 v) : ∃ l : List Int, SArg W v l.length (u64s l) ∧ ∀ x ∈ l, 0 ≤ x ∧ x < 18446744073709551616 := by
  obtain ⟨n, hn⟩ := k
  obtain ⟨a, l, c, rfl⟩ := okWide_slice Try.underlying23 o
  obtain ⟨v', s, h1, h2, h3⟩ := open_all (fun x : Int => [Value.int .u64 x]) (fun x => 0 ≤ x ∧ x < 18446744073709551616) 1 Try.underlying23 (by kernel_rfl) (fun n es y hl hy => by
    obtain ⟨z, rfl, _, hw⟩ := DataW.trod_int Try.underlying55 hy
    refine ⟨z, rfl, ?_⟩
    simp [Lit.wf, IntKind.min, IntKind.max, IntKind.bits, IntKind.signed] at hw
    omega) hn
  simp only [Value.cells, List.cons.injEq, and_true] at h1
  subst h1
  have e : s.flatMap (fun x : Int => [Value.int .u64 x]) = u64s s := by unfold u64s; rw [List.map_eq_flatMap]
  rw [e] at h2
  exact ⟨s, h2, h3⟩
open Go.ChangeShapes Go.WideShapes Go.Deep in
theorem pair_el {H : Type} {enc : TypeId × Value → H} {P : Program} {w : World} {base : Nat} {held : Bool} {e : TypeId} {f0 f1 : Field} (hs : P.underlying e = some (.struct #[f0, f1])) (o0 : f0.offset = 0) (o1 : f1.offset = 1) (c0 : P.cellsOf f0.type = 1) (c1 : P.cellsOf f1.type = 1) (t0 : P.underlying f0.type = some (.int .i64)) (t1 : P.underlying f1.type = some (.int .i64))
    (n : Nat) (es : List Value) (y : DataW H × List MemPlace) (hl : es.length = 2) (hy : DataW.trod enc P w base (fun _ => true) held n e es = some y) : ∃ d : Int × Int, es = pairV d ∧ True := by
  obtain ⟨xs, m, _, _, _, hlen, hf⟩ := DataW.trod_struct hs hy
  match es, hl with
  | [a0, a1], _ =>
    match xs, hlen with
    | [y0, y1], _ =>
      have g0 := hf 0 f0 rfl
      have g1 := hf 1 f1 rfl
      rw [o0, c0] at g0
      rw [o1, c1] at g1
      obtain ⟨n0, h0, _, w0⟩ := DataW.trod_int t0 g0
      obtain ⟨n1, h1, _, w1⟩ := DataW.trod_int t1 g1
      simp at h0 h1
      subst h0 h1
      exact ⟨(n0, n1), rfl, trivial⟩
open Go.ChangeShapes Go.WideShapes Go.Deep in
theorem arg_pairs {H : Type} {enc : TypeId × Value → H} {W : World} {base : Nat} {d : DataW H} {p : List MemPlace} (v : Value) (k : DataW.Trod enc Try.prog W 0 (fun _ => true) true 36 v d p) (o : Value.okWide Try.prog W .any base 36 v) : ∃ l : List (Int × Int), SArg W v l.length (l.flatMap pairV) := by
  obtain ⟨n, hn⟩ := k
  obtain ⟨a, l, c, rfl⟩ := okWide_slice Try.underlying36 o
  obtain ⟨v', s, h1, h2, h3⟩ := open_all pairV (fun _ => True) 2 Try.underlying36 (by kernel_rfl) (fun n es y hl hy => pair_el Try.underlying38 (by rfl) (by rfl) (by kernel_rfl) (by kernel_rfl) Try.underlying3 Try.underlying3 n es y hl hy) hn
  simp only [Value.cells, List.cons.injEq, and_true] at h1
  subst h1
  exact ⟨s, h2⟩
end Go.Proofs.Ythlhjjokodmihaa
