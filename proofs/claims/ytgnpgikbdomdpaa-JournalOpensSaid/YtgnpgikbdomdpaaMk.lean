/-
  Bytes of a string as a slice that may be appended to: a block that bears the mark of a string's bytes behind its cells.
-/
import Derived.Test.YtgnpgikbdomdpaaRj9
namespace Go.Proofs.Ytgnpgikbdomdpaa
open Go.RowKit
set_option linter.unusedSimpArgs false
set_option linter.unusedVariables false
section
variable {P : Program} {a : Act} {w : World} {o : Oper}
theorem ev_minN {ts : Array TypeId} {x y : Operand} (ho : o.op = .call { callee := .builtin .min, args := #[x, y], argTypes := ts }) {k k' : IntKind} {i j : Int} (hx : a.eval x = .int k i) (hy : a.eval y = .int k' j) {m : Int} (hm : (if j < i then j else i) = m) :
    (execOp a.eval o).run P w = .ok (.value (.int k m)) w := by
  subst hm
  unfold execOp
  simp only [ho, resolve, invoke, builtin, Sem.run_bind, Sem.run_pure, Result.andThen_ok, List.map_toArray, List.map_cons, List.map_nil, hx, hy, run_min_int2]
/-- A slice of a slice that may be nil: its first m elements. -/
theorem ev_ssP {t : TypeId} {x y : Operand} (ho : o.op = .slice t x none (some y) none) {p : Option Addr} {n c : Nat} (hx : a.eval x = .slice p n c) {e : TypeId} {z : List Value} {s by' : Nat} [hs : Si P t e z s by'] {k : IntKind} {i : Int} (hy : a.eval y = .int k i) {m : Nat} (hi : i = m) (hp : p = none → c = 0) (hm : m ≤ c) :
    (execOp a.eval o).run P w = .ok (.value (.slice p m c)) w := by
  subst hi
  obtain ⟨hu, ti, zv, h2, h3, h4, rfl, rfl⟩ := si_spec hs.h
  have hb : (Instr.sliceBound (.int k (m : Int)) c .sliceAcap).run P w = .ok (m : Int).toNat w := run_bound (by omega) (by omega)
  have key : (Instr.sliceBounds true n c none (some (a.eval y)) none).run P w = .ok (0, m, c) w := by
    simp [Instr.sliceBounds, hy, run_bound (P := P) (w := w) (k := k) (i := (m : Int)) (by omega) (show (m : Int) ≤ (c : Nat) by omega)]
  unfold execOp
  cases p with
  | none =>
    obtain rfl := hp rfl
    obtain rfl : m = 0 := by omega
    simp only [ho, hx, Instr.sliceAt, Instr.slice, Sem.run_bind, run_underlying hu, Result.andThen_ok, Option.map_none, Option.map_some, key, sizeOf, typeInfo, run_program, h2, Sem.run_pure]
    rfl
  | some ad =>
    obtain ⟨b, off, r⟩ := ad
    simp only [ho, hx, Instr.sliceAt, Instr.slice, Sem.run_bind, run_underlying hu, Result.andThen_ok, Option.map_none, Option.map_some, key, sizeOf, typeInfo, run_program, h2, Sem.run_pure, Nat.zero_mul, Nat.sub_zero]
    cases r <;> (simp [Addr.add]; try (split <;> rfl))
end
/-- The slice v owns the block that holds the bytes s; behind its cells the block may bear a mark. -/
def OwnM (v : Value) (s : List UInt8) (S : List Nat) (w : World) : Prop :=
  ∃ g cap cur fz, S = [g] ∧ v = .slice (some ⟨g, 0, none⟩) s.length cap ∧ w.heap[g]? = some (.cells cur 5 fz) ∧ (cur.size ≤ fz.1 ∨ fz.2 = 0) ∧ s.length ≤ cap ∧ cur.size = cap ∧ cur.toList.take s.length = bytesV s
theorem OwnM.firm {v : Value} {s : List UInt8} {S : List Nat} : Firm S (OwnM v s S) := by
  refine ⟨fun w w' R k hn h => ?_, fun w h x hx => ?_, fun w h => ?_⟩
  · obtain ⟨g, cap, cur, fz, rfl, h1, h2, h3⟩ := h
    exact ⟨g, cap, cur, fz, rfl, h1, k.get h2 (hn g (by simp)), h3⟩
  · obtain ⟨g, cap, cur, fz, rfl, h1, h2, h3⟩ := h
    simp only [List.mem_singleton] at hx; subst hx; exact lt_of_get h2
  · obtain ⟨g, cap, cur, fz, rfl, _⟩ := h; simp
instance {v : Value} {s : List UInt8} {S : List Nat} : Fm S (OwnM v s S) := ⟨OwnM.firm⟩
theorem own_cells {w : World} {g : Nat} {cur : Array Value} {fz : Nat × Nat} {e : TypeId} {s : List UInt8} (h : w.heap[g]? = some (.cells cur e fz)) (ht : cur.toList.take s.length = bytesV s) : ∀ (j : Nat) u, (bytesV s)[j]? = some u → w.cell? ⟨g, j, none⟩ = some u := by
  intro j u hj
  rw [← ht] at hj
  have hlt : j < s.length := by
    have := (List.getElem?_eq_some_iff.1 hj).1
    rw [List.length_take] at this; omega
  rw [List.getElem?_take_of_lt hlt] at hj
  simp only [World.cell?, h]
  simpa using hj
theorem OwnM.rd {v : Value} {s : List UInt8} {S : List Nat} {w : World} (h : OwnM v s S w) : Rd w v s.length (bytesV s) := by
  obtain ⟨g, cap, cur, fz, rfl, rfl, h2, h3, h4, h6, h7⟩ := h
  exact .inr ⟨_, cap, rfl, fun j u hj => by rw [add_mk, Nat.zero_add]; exact own_cells h2 h7 j u hj⟩
theorem OwnM.form {v : Value} {s : List UInt8} {S : List Nat} {w : World} (h : OwnM v s S w) : ∃ g c, v = .slice (some ⟨g, 0, none⟩) s.length c := by
  obtain ⟨g, cap, cur, fz, rfl, rfl, _⟩ := h
  exact ⟨g, cap, rfl⟩
/-- Stores into a block whose mark lies behind its cells. -/
theorem run_storeM (P : Program) (g o : Nat) (t : TypeId) (fz : Nat × Nat) : ∀ (vs : List Value) (i : Nat) (cur : Array Value) (w : World), w.heap[g]? = some (.cells cur t fz) → (cur.size ≤ fz.1 ∨ fz.2 = 0) → o + i + vs.length ≤ cur.size → (∀ v ∈ vs, v.oneCell' = true) →
    (storeCells ⟨g, o, none⟩ vs i).run P w = .ok () (w.setRow g (cur.toList.take (o + i) ++ vs ++ cur.toList.drop (o + i + vs.length)).toArray)
  | [], i, cur, w, hg, _, _, _ => by
    simp only [storeCells, List.append_nil, List.length_nil, Nat.add_zero, List.take_append_drop, Array.toArray_toList]
    rw [setRow_self w g cur t fz hg]
    rfl
  | v :: rest, i, cur, w, hg, hfz, hl, h1 => by
    have hi : o + i < cur.size := by simp at hl; omega
    have hadd : (⟨g, o, none⟩ : Addr).add i = ⟨g, o + i, none⟩ := by unfold Addr.add; split <;> simp_all
    have hcell : w.cell? ⟨g, o + i, none⟩ = some cur[o + i] := by simp [World.cell?, hg, hi]
    have hfro : w.frozen? ⟨g, o + i, none⟩ = false := by
      obtain ⟨lo, hi'⟩ := fz
      simp only [World.frozen?, hg, Bool.and_eq_false_iff, decide_eq_false_iff_not]
      simp only at hfz
      omega
    have hst : (store ((⟨g, o, none⟩ : Addr).add i) v).run P w = .ok () (w.setRow g (cur.setIfInBounds (o + i) v)) := by
      rw [hadd, run_store P w _ v _ (h1 v (by simp)), hcell]
      simp [hfro, setCell_eq_setRow w g (o + i) cur t fz v hg]
    have ih := run_storeM P g o t fz rest (i + 1) (cur.setIfInBounds (o + i) v) (w.setRow g (cur.setIfInBounds (o + i) v)) (setRow_heap w g cur _ t _ hg) (by simpa using hfz) (by simp at hl ⊢; omega) (fun x hx => h1 x (by simp [hx]))
    simp only [storeCells, Sem.run_bind, hst, Result.andThen_ok, ih, setRow_setRow]
    congr 3
    have e := list_seg_step cur.toList (o + i) v rest (by simp at hl ⊢; omega)
    simpa [Array.toList_setIfInBounds, Nat.add_assoc] using e
section
variable {P : Program} {Q : Exit → Act → World → Prop} {a : Act} {w w0 : World} {o : Oper} {K : Act → World → Prop} {T : List Nat} {l : List Ent}
theorem c_sbM (H : Hp T w0 w l) {sT dT : TypeId} {x : Operand} (ho : o.op = .convert sT dT x) {s : List UInt8} (hx : a.eval x = strV s) [h1 : Sy P sT] [h2 : By P dT] (he : P.underlying dT = some (.slice 5)) (hu8 : P.underlying 5 = some (.int .u8)) (k : Nat)
    (h : ∀ g w' cap, Fr [] w w' → Hp T w0 w' (.obj k [g] (OwnM (.slice (some ⟨g, 0, none⟩) s.length cap) s [g]) :: l) → K (a.put o.dst (.slice (some ⟨g, 0, none⟩) s.length cap)) w') : o.wp P a w K Q := by
  have hr := run_bytes_of_string (P := P) w sT dT 5 ⟨s.toArray⟩ h1.h he hu8
  rw [ba_size] at hr
  have hF : Fr [] w (w.drew.alloc (.cells (bytesRow ⟨s.toArray⟩ (grownCap w s.length 0 5)) 5 ((bytesRow ⟨s.toArray⟩ (grownCap w s.length 0 5)).size, (bytesRow ⟨s.toArray⟩ (grownCap w s.length 0 5)).size + 1))) := (Fr.drew [] w).trans (Fr.alloc [] _ _)
  refine wp_of_run (v := .slice (some ⟨w.heap.size, 0, none⟩) s.length (grownCap w s.length 0 5)) ?_ (h w.heap.size _ (grownCap w s.length 0 5) hF ?_)
  · unfold execOp
    unfold strV at hx
    simp only [ho, hx, Sem.run_bind, hr, Result.andThen_ok, Sem.run_pure]
  · have hge := grownCap_ge w s.length 0 5
    have hsz : (bytesRow ⟨s.toArray⟩ (grownCap w s.length 0 5)).size = grownCap w s.length 0 5 := by
      unfold bytesRow
      simp only [Array.size_append, Array.size_map, Array.size_replicate, ba_size, List.size_toArray]
      omega
    refine H.born k hF ⟨w.heap.size, grownCap w s.length 0 5, _, _, rfl, rfl, heap_alloc_new w.drew _, .inl (Nat.le_refl _), hge, hsz, ?_⟩ OwnM.firm (by simp)
    unfold bytesRow
    rw [Array.toList_append, List.take_append_of_le_length (by simp), List.take_of_length_le (by simp)]
    simp [bytesV]
theorem c_apM {v : Value} {s : List UInt8} {S : List Nat} {k : Nat} (H : Hp T w0 w (.obj k S (OwnM v s S) :: l)) {t : TypeId} {sx x : Operand} (ho : o.op = .call { callee := .builtin .append, args := #[sx, x], argTypes := #[t, t] })
    (hs : a.eval sx = v) {ad : Addr} {c : Nat} {u : UInt8} (hx : a.eval x = .slice (some ad) 1 c) {z : List Value} [hsi : Si P t 5 z 1 1] (hr : Rd w (.slice (some ad) 1 c) 1 (bytesV [u])) (hlen : s.length ≤ 1000000)
    (h : ∀ g cap w' S', Fr S w w' → Hp T w0 w' (.obj k S' (OwnM (.slice (some ⟨g, 0, none⟩) (s.length + 1) cap) (s ++ [u]) S') :: l) → K (a.put o.dst (.slice (some ⟨g, 0, none⟩) (s.length + 1) cap)) w') : o.wp P a w K Q := by
  obtain ⟨hu, i, zv, h2, h3, h4, h5, h6⟩ := si_spec hsi.h
  have hnews : ∀ (j : Nat) y, (bytesV [u])[j]? = some y → w.cell? (ad.add j) = some y := by
    rcases hr with ⟨h7, _⟩ | ⟨ad', c', h7, h8⟩
    · omega
    · cases h7; exact h8
  have hO : OwnM v s S w := (H.ok _ (.head _)).1
  obtain ⟨g, cap, cur, fz, rfl, rfl, hg, hfz, hnc, hcs, htake⟩ := hO
  have g5 : i.size = 1 := by omega
  have g6 : i.bytes = 1 := by omega
  have hl1 : (bytesV [u]).length = 1 * i.size := by rw [g5]; rfl
  have hone : ∀ y ∈ bytesV [u], y.oneCell' = true := bytesV_one _
  have hsl : (s ++ [u]).length = s.length + 1 := by rw [List.length_append]; rfl
  have hbl : (bytesV [u]).length = 1 := rfl
  by_cases hroom : s.length + 1 ≤ cap
  · have hf := run_firstCells_some (P := P) w i.size 1 ad 1 c (bytesV [u]) hl1 hnews
    have hst := run_storeM P g (s.length * i.size) 5 fz (bytesV [u]) 0 cur w hg hfz (by rw [g5, Nat.mul_one, Nat.add_zero, hbl, hcs]; exact hroom) hone
    simp only [Nat.add_zero] at hst
    have e1 : (Builtin.append_ #[t, t] o.type #[.slice (some ⟨g, 0, none⟩) s.length cap, .slice (some ad) 1 c]).run P w = .ok (.slice (some ⟨g, 0, none⟩) (s.length + 1) cap) (w.setRow g (cur.toList.take (s.length * i.size) ++ bytesV [u] ++ cur.toList.drop (s.length * i.size + (bytesV [u]).length)).toArray) := by
      simp [Builtin.append_, run_underlying hu, sizeOf, typeInfo, h2, Builtin.lenOf, hroom, Addr.add_lit, hst, hf]
    rw [g5, Nat.mul_one, htake, hbl] at e1
    refine wp_of_run ?_ (h g cap _ [g] (Fr.setRow w g (bytesV s ++ bytesV [u] ++ List.drop (s.length + 1) cur.toList).toArray) (H.upd k (Fr.setRow w g (bytesV s ++ bytesV [u] ++ List.drop (s.length + 1) cur.toList).toArray) (S' := [g]) ⟨g, cap, _, fz, rfl, by rw [hsl], setRow_heap w g cur _ _ _ hg, ?_, by rw [hsl]; exact hroom, ?_, ?_⟩ (fun x hx => .inl hx)))
    · unfold execOp
      simp only [ho, resolve, invoke, builtin, Sem.run_bind, Sem.run_pure, Result.andThen_ok, List.map_toArray, List.map_cons, List.map_nil, hs, hx, e1]
    · have hz : (bytesV s ++ bytesV [u] ++ List.drop (s.length + 1) cur.toList).toArray.size = cur.size := by
        simp only [List.size_toArray, List.length_append, bytesV_len, List.length_drop, Array.length_toList, List.length_cons, List.length_nil]; omega
      rw [hz]; exact hfz
    · simp only [List.size_toArray, List.length_append, bytesV_len, List.length_drop, Array.length_toList, List.length_cons, List.length_nil]; omega
    · rw [hsl, List.toList_toArray, bytesV_append, List.take_append_of_le_length (by rw [bytesV_len, hsl]; exact Nat.le_refl _), List.take_of_length_le (by rw [bytesV_len, hsl]; exact Nat.le_refl _)]
  · have holds := own_cells hg htake
    have hge := grownCap_ge w (s.length + 1) cap 5
    have e1 := run_append_grow (P := P) w t o.type 5 i zv hu h2 h3 ⟨g, 0, none⟩ s.length cap (bytesV s) (by rw [g5, Nat.mul_one, bytesV_len]) (fun j y hj => by rw [add_mk, Nat.zero_add]; exact holds j y hj) ad 1 c (bytesV [u]) hl1 hnews (by omega) (by omega) (growslice_fits (by omega) (by rw [g6]; omega))
    have hz := size_zeroCells zv.cells (grownCap w (s.length + 1) cap 5 - (s.length + 1))
    have hz1 : zv.cells.size = 1 := by rw [← Array.length_toList, h4]; exact hsi.z
    rw [hz1, Nat.mul_one] at hz
    have hF := (Fr.drew [] w).trans (Fr.alloc [] w.drew (.cells ((bytesV s).toArray ++ (bytesV [u]).toArray ++ Builtin.zeroCells zv.cells (grownCap w (s.length + 1) cap 5 - (s.length + 1))) 5))
    have hF1 := hF.mono (S := [g]) (by simp)
    refine wp_of_run ?_ (h w.heap.size (grownCap w (s.length + 1) cap 5) _ [w.heap.size] hF1 (H.upd k hF1 (S' := [w.heap.size]) ⟨w.heap.size, _, _, (0, 0), rfl, by rw [hsl], heap_alloc_new w.drew _, .inr rfl, by rw [hsl]; exact hge, ?_, ?_⟩ (fun x hx => .inr (by simp only [List.mem_singleton] at hx; omega))))
    · unfold execOp
      simp only [ho, resolve, invoke, builtin, Sem.run_bind, Sem.run_pure, Result.andThen_ok, List.map_toArray, List.map_cons, List.map_nil, hs, hx, e1]
    · simp only [Array.size_append, List.size_toArray, bytesV_len, hz, List.length_cons, List.length_nil]; omega
    · rw [Array.toList_append, Array.toList_append, List.toList_toArray, List.toList_toArray, bytesV_append, hsl, List.take_append_of_le_length (by rw [bytesV_len, hsl]; exact Nat.le_refl _), List.take_of_length_le (by rw [bytesV_len, hsl]; exact Nat.le_refl _)]
end
end Go.Proofs.Ytgnpgikbdomdpaa
