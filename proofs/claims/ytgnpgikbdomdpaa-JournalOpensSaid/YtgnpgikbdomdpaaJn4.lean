/-
  The journal, fourth part: a journal in memory; the next record read.
-/
import Derived.Test.YtgnpgikbdomdpaaJn3
import Derived.Laws.BitsLemmas
namespace Go.Proofs.Ytgnpgikbdomdpaa
open Go.RowKit
set_option linter.unusedSimpArgs false
set_option linter.unusedVariables false


section
variable {P : Program} {a : Act} {w : World} {o : Oper}
theorem i64_small (z : Int) (h0 : 0 ≤ z) (h1 : z < 9223372036854775808) : IntKind.i64.wrap z = z := by
  rw [IntKind.wrap_i64]; omega
theorem ev_shl8 {t t' : TypeId} {x : Operand} (ho : o.op = .binOp .shl t x (.const (.int .u64 8)) t') {n : Int} (hx : a.eval x = .int .i64 n) (h0 : 0 ≤ n) (h1 : n < 256) : (execOp a.eval o).run P w = .ok (.value (.int .i64 (n * 256))) w := by
  have e : (eqGuard .shl t x (.const (.int .u64 8)) (.int .i64 n) (.int .u64 8)).run P w = .ok () w := rfl
  have hn : a.eval (.const (.int .u64 8)) = .int .u64 8 := rfl
  unfold execOp
  simp only [ho, hx, hn, Sem.run_bind, e, Result.andThen_ok, binOp_shl, shift_shl .i64 .u64 n 8 (by decide) (by decide), Sem.run_pure]
  rw [show (2 : Int) ^ (Int.toNat 8) = 256 from rfl, i64_small _ (by omega) (by omega)]
theorem ev_or8 {t t' : TypeId} {x y : Operand} (ho : o.op = .binOp .or t x y t') {n m : Int} (hx : a.eval x = .int .i64 (n * 256)) (hy : a.eval y = .int .i64 m) (h0 : 0 ≤ n ∧ n < 256) (h1 : 0 ≤ m ∧ m < 256) : (execOp a.eval o).run P w = .ok (.value (.int .i64 (n * 256 + m))) w := by
  have e : (eqGuard .or t x y (.int .i64 (n * 256)) (.int .i64 m)).run P w = .ok () w := rfl
  have hb : bits .or .i64 (n * 256) m = n * 256 + m := by
    obtain ⟨n, rfl⟩ := Int.eq_ofNat_of_zero_le h0.1
    obtain ⟨m, rfl⟩ := Int.eq_ofNat_of_zero_le h1.1
    have hn : n < 256 := by omega
    have hm : m < 256 := by omega
    have e1 : ((n : Int) * 256) = ((n * 256 : Nat) : Int) := by omega
    unfold bits
    rw [e1]
    simp only [BitVec.ofInt_natCast, BitVec.toNat_or, BitVec.toNat_ofNat]
    have h64 : IntKind.i64.bits = 64 := rfl
    rw [h64, Nat.mod_eq_of_lt (by omega), Nat.mod_eq_of_lt (by omega)]
    have := Nat.shiftLeft_add_eq_or_of_lt (b := m) (i := 8) (by omega) n
    rw [Nat.shiftLeft_eq] at this
    rw [show n * 256 ||| m = n * 256 + m from this.symm, i64_small _ (by omega) (by omega)]
    omega
  unfold execOp
  simp only [ho, hx, hy, Sem.run_bind, e, Result.andThen_ok, binOp_or, intBits_or, hb, Sem.run_pure]
end
/-! ### A journal in memory -/
/-- The slices hs hold the records; S: their blocks. -/
def RecsAt : List Value → List (List UInt8) → List Nat → World → Prop
  | [], [], S, _ => S = []
  | v :: hs, r :: rs, S, w => ∃ S1 S2, S = S1 ++ S2 ∧ RowAt 5 1 v r.length (bytesV r) S1 w ∧ RecsAt hs rs S2 w
  | _, _, _, _ => False
def RecsN (hs : List Value) (rs : List (List UInt8)) (S : List Nat) (w : World) : Prop := S.Nodup ∧ RecsAt hs rs S w
theorem RecsAt.fr : ∀ {hs : List Value} {rs : List (List UInt8)} {S : List Nat} {w w' : World} {R : List Nat}, RecsAt hs rs S w → Fr R w w' → (∀ x ∈ S, x ∉ R) → RecsAt hs rs S w'
  | [], [], _, _, _, _, h, _, _ => h
  | v :: hs, r :: rs, S, w, w', R, h, k, hn => by
    obtain ⟨S1, S2, rfl, h1, h2⟩ := h
    exact ⟨S1, S2, rfl, RowAt.firm.fr w w' R k (fun x hx => hn x (List.mem_append_left _ hx)) h1, h2.fr k (fun x hx => hn x (List.mem_append_right _ hx))⟩
  | [], _ :: _, _, _, _, _, h, _, _ => h.elim
  | _ :: _, [], _, _, _, _, h, _, _ => h.elim
theorem RecsAt.lt : ∀ {hs : List Value} {rs : List (List UInt8)} {S : List Nat} {w : World}, RecsAt hs rs S w → ∀ x ∈ S, x < w.heap.size
  | [], [], _, _, h => by cases h; simp
  | v :: hs, r :: rs, S, w, h => by
    obtain ⟨S1, S2, rfl, h1, h2⟩ := h
    intro x hx
    rcases List.mem_append.1 hx with h | h
    · exact RowAt.firm.lt w h1 x h
    · exact h2.lt x h
  | [], _ :: _, _, _, h => h.elim
  | _ :: _, [], _, _, h => h.elim
theorem RecsAt.len : ∀ {hs : List Value} {rs : List (List UInt8)} {S : List Nat} {w : World}, RecsAt hs rs S w → hs.length = rs.length
  | [], [], _, _, _ => rfl
  | v :: hs, r :: rs, S, w, h => by
    obtain ⟨S1, S2, rfl, h1, h2⟩ := h
    simp [h2.len]
  | [], _ :: _, _, _, h => h.elim
  | _ :: _, [], _, _, h => h.elim
theorem RecsAt.snoc : ∀ {hs : List Value} {rs : List (List UInt8)} {S S' : List Nat} {w : World} {v : Value} {r : List UInt8}, RecsAt hs rs S w → RowAt 5 1 v r.length (bytesV r) S' w → RecsAt (hs ++ [v]) (rs ++ [r]) (S ++ S') w
  | [], [], _, S', _, _, _, h, k => by cases h; exact ⟨S', [], by simp, k, rfl⟩
  | v :: hs, r :: rs, S, S', w, _, _, h, k => by
    obtain ⟨S1, S2, rfl, h1, h2⟩ := h
    exact ⟨S1, S2 ++ S', by simp, h1, h2.snoc k⟩
  | [], _ :: _, _, _, _, _, _, h, _ => h.elim
  | _ :: _, [], _, _, _, _, _, h, _ => h.elim
theorem RecsAt.at : ∀ {hs : List Value} {rs : List (List UInt8)} {S : List Nat} {w : World} {i : Nat} {r : List UInt8}, RecsAt hs rs S w → rs[i]? = some r → ∃ v S1, hs[i]? = some v ∧ RowAt 5 1 v r.length (bytesV r) S1 w ∧ ∀ x ∈ S1, x ∈ S
  | [], [], _, _, _, _, _, hi => by simp at hi
  | v :: hs, r :: rs, S, w, 0, q, h, hi => by
    obtain ⟨S1, S2, rfl, h1, h2⟩ := h
    simp at hi
    subst hi
    exact ⟨v, S1, rfl, h1, fun x hx => List.mem_append_left _ hx⟩
  | v :: hs, r :: rs, S, w, i + 1, q, h, hi => by
    obtain ⟨S1, S2, rfl, h1, h2⟩ := h
    obtain ⟨u, S3, e1, e2, e3⟩ := h2.at (i := i) (r := q) (by simpa using hi)
    exact ⟨u, S3, by simpa using e1, e2, fun x hx => List.mem_append_right _ (e3 x hx)⟩
  | [], _ :: _, _, _, _, _, h, _ => h.elim
  | _ :: _, [], _, _, _, _, h, _ => h.elim
instance {hs : List Value} {rs : List (List UInt8)} {S : List Nat} : Fm S (RecsN hs rs S) := ⟨⟨fun _ _ _ k hn h => ⟨h.1, h.2.fr k hn⟩, fun _ h => h.2.lt, fun _ h => h.1⟩⟩
/-- The journal behind the pointer to block j on the disk at b: its records, the block behind the last. -/
def JAt (j b : Nat) (recs : List (List UInt8)) (next : Nat) (S : List Nat) (w : World) : Prop :=
  ∃ rv hs S1 S2, S = j :: (S1 ++ S2) ∧ S.Nodup ∧ w.heap[j]? = some (.cells #[.pointer (some ⟨b, 0, none⟩), rv, .int .i64 next] 91 (0, 0)) ∧ RowAt 33 1 rv recs.length hs S1 w ∧ RecsAt hs recs S2 w
theorem JAt.firm {j b : Nat} {recs : List (List UInt8)} {next : Nat} {S : List Nat} : Firm S (JAt j b recs next S) := by
  refine ⟨fun w w' R k hn h => ?_, fun w h x hx => ?_, fun w h => ?_⟩
  · obtain ⟨rv, hs, S1, S2, rfl, h1, h2, h3, h4⟩ := h
    exact ⟨rv, hs, S1, S2, rfl, h1, k.get h2 (hn j (by simp)), RowAt.firm.fr w w' R k (fun x hx => hn x (by simp [hx])) h3, h4.fr k (fun x hx => hn x (by simp [hx]))⟩
  · obtain ⟨rv, hs, S1, S2, rfl, h1, h2, h3, h4⟩ := h
    simp only [List.mem_cons, List.mem_append] at hx
    rcases hx with rfl | h | h
    · exact lt_of_get h2
    · exact RowAt.firm.lt w h3 x h
    · exact h4.lt x h
  · obtain ⟨rv, hs, S1, S2, rfl, h1, h2, h3, h4⟩ := h
    exact h1
instance {j b : Nat} {recs : List (List UInt8)} {next : Nat} {S : List Nat} : Fm S (JAt j b recs next S) := ⟨JAt.firm⟩
theorem JAt.opn {w : World} {j b : Nat} {recs : List (List UInt8)} {next : Nat} {S : List Nat} {T : List Nat} (h : JAt j b recs next S w) (hT : ∀ x ∈ S, x ∈ T) : ∃ rv hs S1 S2, S = j :: (S1 ++ S2) ∧ hs.length = recs.length ∧ Hp T w w [.blk j [.pointer (some ⟨b, 0, none⟩), rv, .int .i64 next] 91, .obj 0 S1 (RowAt 33 1 rv recs.length hs S1), .obj 1 S2 (RecsN hs recs S2)] := by
  obtain ⟨rv, hs, S1, S2, rfl, h1, h2, h3, h4⟩ := h
  have h1' := List.nodup_cons.1 h1
  have h1'' := List.nodup_append.1 h1'.2
  refine ⟨rv, hs, S1, S2, rfl, h4.len, ?_⟩
  have H := Hp.start T w
  have H := H.pushObj 1 (S := S2) (Q := RecsN hs recs S2) ⟨h1''.2.1, h4⟩ Fm.h (fun x (hx : x ∈ S2) => .inl (hT x (List.mem_cons_of_mem _ (List.mem_append_right _ hx)))) (by simp)
  have H := H.pushObj 0 (S := S1) (Q := RowAt 33 1 rv recs.length hs S1) h3 Fm.h (fun x (hx : x ∈ S1) => .inl (hT x (List.mem_cons_of_mem _ (List.mem_append_left _ hx)))) (fun x hx => by
    simp only [List.flatMap_cons, List.flatMap_nil, Ent.own, List.append_nil]
    exact fun h => h1''.2.2 x hx x h rfl)
  exact H.push h2 (.inl (hT j (by simp))) (by simp only [List.flatMap_cons, List.flatMap_nil, Ent.own, List.append_nil]; exact h1'.1)
theorem JAt.cls {T : List Nat} {w w1 : World} {j b : Nat} {rv : Value} {hs : List Value} {recs : List (List UInt8)} {next : Nat} {S1 S2 : List Nat} (H : Hp T w w1 [.blk j [.pointer (some ⟨b, 0, none⟩), rv, .int .i64 next] 91, .obj 0 S1 (RowAt 33 1 rv recs.length hs S1), .obj 1 S2 (RecsN hs recs S2)]) : JAt j b recs next (j :: (S1 ++ S2)) w1 ∧ ∀ x ∈ j :: (S1 ++ S2), x ∈ T ∨ w.heap.size ≤ x := by
  have hn := H.nodup
  simp only [List.flatMap_cons, List.flatMap_nil, Ent.own, List.append_nil, List.cons_append, List.nil_append] at hn
  refine ⟨⟨rv, hs, S1, S2, rfl, hn, H.at j, H.rowo 0, (show RecsN hs recs S2 w1 from H.ob 1).2⟩, fun x hx => ?_⟩
  simp only [List.mem_cons, List.mem_append] at hx
  rcases hx with rfl | h | h
  · exact (H.ok _ (.head _)).2
  · exact H.home 0 x h
  · exact H.home 1 x h
section
variable {T : List Nat} {w0 w : World} {l : List Ent}
/-- An object that is a slice with elements, as a block. -/
theorem Hp.rowBlk (H : Hp T w0 w l) (k : Nat) {S : List Nat} {e : TypeId} {sz n : Nat} {v : Value} {xs : List Value} {f : Ent → List Ent} [i : Oi k S (RowAt e sz v n xs S) l f] (hn : n ≠ 0) : ∃ g cap pad, S = [g] ∧ v = .slice (some ⟨g, 0, none⟩) n cap ∧ n ≤ cap ∧ cap ≤ maxLen ∧ (xs ++ pad).length = cap * sz ∧ Hp T w0 w (f (.blk g (xs ++ pad) e)) := by
  obtain ⟨h0, ⟨rfl, h1, _⟩ | ⟨g, cap, pad, rfl, rfl, h2, h3, h4, h5⟩⟩ := H.ob k
  · exact absurd h1 hn
  · exact ⟨g, cap, pad, rfl, rfl, h2, h3, h4, H.recast (i.h _) rfl ⟨h5, H.home k g (by simp)⟩⟩
/-- An empty block as a slice that grows. -/
theorem Hp.blkRow {g : Nat} {e : TypeId} (H : Hp T w0 w (.blk g [] e :: l)) (k : Nat) {sz : Nat} : Hp T w0 w (.obj k [g] (RowAt e sz (.slice (some ⟨g, 0, none⟩) 0 0) 0 [] [g]) :: l) :=
  H.recast (Rep.head l) rfl ⟨⟨by simp, .inr ⟨g, 0, [], rfl, rfl, Nat.le_refl _, Nat.zero_le _, by simp, (H.ok _ (.head _)).1⟩⟩, RowAt.firm, by simpa using (H.ok _ (.head _)).2⟩
end
end Go.Proofs.Ytgnpgikbdomdpaa
