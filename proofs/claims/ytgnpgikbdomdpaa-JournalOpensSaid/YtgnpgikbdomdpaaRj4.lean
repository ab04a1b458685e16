/-
  The document's journal: Append.
-/
import Derived.Test.YtgnpgikbdomdpaaRj3
import Derived.Laws.IdiomStrings
namespace Go.Proofs.Ytgnpgikbdomdpaa
open Go.RowKit
set_option linter.unusedSimpArgs false
set_option linter.unusedVariables false




/-- The block g reads the bytes s. -/
def BytesAt (g : Nat) (s : List UInt8) (S : List Nat) (w : World) : Prop := S = [g] ∧ g < w.heap.size ∧ ∀ (j : Nat) u, (bytesV s)[j]? = some u → w.cell? ⟨g, j, none⟩ = some u
theorem BytesAt.firm {g : Nat} {s : List UInt8} {S : List Nat} : Firm S (BytesAt g s S) := by
  refine ⟨fun w w' R k hn h => ?_, fun w h x hx => ?_, fun w h => ?_⟩
  · obtain ⟨rfl, h1, h2⟩ := h
    exact ⟨rfl, Nat.lt_of_lt_of_le h1 k.size, fun j u hj => k.cell (h2 j u hj) (hn g (by simp))⟩
  · obtain ⟨rfl, h1, h2⟩ := h
    simp only [List.mem_singleton] at hx; subst hx; exact h1
  · obtain ⟨rfl, _⟩ := h; simp
instance {g : Nat} {s : List UInt8} {S : List Nat} : Fm S (BytesAt g s S) := ⟨BytesAt.firm⟩
theorem BytesAt.rd {g : Nat} {s : List UInt8} {S : List Nat} {w : World} (h : BytesAt g s S w) (c : Nat) : Rd w (.slice (some ⟨g, 0, none⟩) s.length c) s.length (bytesV s) :=
  .inr ⟨_, c, rfl, fun j u hj => by rw [add_mk, Nat.zero_add]; exact h.2.2 j u hj⟩
section
variable {P : Program} {Q : Exit → Act → World → Prop} {a : Act} {w w0 : World} {o : Oper} {K : Act → World → Prop} {T : List Nat} {l : List Ent}
/-- The bytes of a string, as a new slice. -/
theorem c_sb (H : Hp T w0 w l) {sT dT : TypeId} {x : Operand} (ho : o.op = .convert sT dT x) {s : List UInt8} (hx : a.eval x = strV s) [h1 : Sy P sT] [h2 : By P dT] (k : Nat)
    (h : ∀ g w' cap, w.heap.size ≤ g → Fr [] w w' → Hp T w0 w' (.obj k [g] (BytesAt g s [g]) :: l) → K (a.put o.dst (.slice (some ⟨g, 0, none⟩) s.length cap)) w') : o.wp P a w K Q := by
  obtain ⟨e, h3, h4⟩ := h2.h
  have hr := run_bytes_of_string (P := P) w sT dT e ⟨s.toArray⟩ h1.h h3 h4
  rw [ba_size] at hr
  have hF : Fr [] w (w.drew.alloc (.cells (bytesRow ⟨s.toArray⟩ (grownCap w s.length 0 e)) e ((bytesRow ⟨s.toArray⟩ (grownCap w s.length 0 e)).size, (bytesRow ⟨s.toArray⟩ (grownCap w s.length 0 e)).size + 1))) := (Fr.drew [] w).trans (Fr.alloc [] _ _)
  refine wp_of_run (v := .slice (some ⟨w.heap.size, 0, none⟩) s.length (grownCap w s.length 0 e)) ?_ (h w.heap.size _ (grownCap w s.length 0 e) (Nat.le_refl _) hF ?_)
  · unfold execOp
    unfold strV at hx
    simp only [ho, hx, Sem.run_bind, hr, Result.andThen_ok, Sem.run_pure]
  · refine H.born k hF ⟨rfl, lt_of_get (heap_alloc_new w.drew _), fun j u hj => ?_⟩ BytesAt.firm (by simp)
    have hg := heap_alloc_new w.drew (.cells (bytesRow ⟨s.toArray⟩ (grownCap w s.length 0 e)) e ((bytesRow ⟨s.toArray⟩ (grownCap w s.length 0 e)).size, (bytesRow ⟨s.toArray⟩ (grownCap w s.length 0 e)).size + 1))
    rw [show w.heap.size = w.drew.heap.size from rfl, cell_of_row _ _ _ _ _ _ hg]
    have hlt := (List.getElem?_eq_some_iff.1 hj).1
    rw [bytesV_len] at hlt
    unfold bytesRow
    rw [Array.getElem?_append_left (by simpa using hlt)]
    simpa [bytesV] using hj
end
/-- A reference disk but for its first block. -/
def RefRest (c : Nat) (pv : Value) (dur : List (List UInt8)) (pend : List (Nat × List UInt8)) (S : List Nat) (w : World) : Prop :=
  ROk dur pend ∧ S.Nodup ∧ ∃ ps, S = c :: ps ∧ w.heap[c]? = some (.cells (dur.map strV).toArray 9 (0, 0)) ∧ RPend w pv ps pend
theorem RPend.fr' {w w' : World} {pv : Value} {ps : List Nat} {pend : List (Nat × List UInt8)} {R : List Nat} (h : RPend w pv ps pend) (k : Fr R w w') (hn : ∀ x ∈ ps, x ∉ R) : RPend w' pv ps pend := by
  rcases h with h5 | ⟨h8, p, cap, pad, h5, rfl, h6, h7⟩
  · exact .inl h5
  · exact .inr ⟨h8, p, cap, pad, h5, rfl, k.get h6 (hn _ (by simp)), h7⟩
theorem RPend.lt' {w : World} {pv : Value} {ps : List Nat} {pend : List (Nat × List UInt8)} (h : RPend w pv ps pend) : ∀ x ∈ ps, x < w.heap.size := by
  rcases h with ⟨_, _, rfl⟩ | ⟨_, p, cap, pad, _, rfl, h5, _⟩
  · simp
  · intro x hx; simp at hx; subst hx; exact lt_of_get h5
theorem RefRest.firm {c : Nat} {pv : Value} {dur : List (List UInt8)} {pend : List (Nat × List UInt8)} {S : List Nat} : Firm S (RefRest c pv dur pend S) := by
  refine ⟨fun w w' R k hn h => ?_, fun w h x hx => ?_, fun w h => h.2.1⟩
  · obtain ⟨h0, h1, ps, rfl, h2, h3⟩ := h
    exact ⟨h0, h1, ps, rfl, k.get h2 (hn c (by simp)), h3.fr' k (fun x hx => hn x (by simp [hx]))⟩
  · obtain ⟨h0, h1, ps, rfl, h2, h3⟩ := h
    rcases List.mem_cons.1 hx with rfl | h
    · exact lt_of_get h2
    · exact h3.lt' x h
instance {c : Nat} {pv : Value} {dur : List (List UInt8)} {pend : List (Nat × List UInt8)} {S : List Nat} : Fm S (RefRest c pv dur pend S) := ⟨RefRest.firm⟩
section
variable {T : List Nat} {w0 w : World} {l : List Ent}
theorem Hp.refOpen {b : Nat} {S : List Nat} {dur : List (List UInt8)} {pend : List (Nat × List UInt8)} (H : Hp T w0 w (.obj b S (RefAt b dur pend S) :: l)) : ∃ c pv S2, S = b :: S2 ∧ Hp T w0 w (.blk b [.slice (some ⟨c, 0, none⟩) dur.length dur.length, pv] 73 :: .obj 9 S2 (RefRest c pv dur pend S2) :: l) := by
  have hh := (H.ok _ (.head _)).2.2
  obtain ⟨h0, c, pv, ps, rfl, hd, h1, h2, h4⟩ := (show RRep w b dur pend S from (H.ok _ (.head _)).1)
  refine ⟨c, pv, c :: ps, rfl, ?_⟩
  exact Hp.front (lo := [.obj b _ _]) H (Fr.refl _ _) [.blk b _ _, .obj 9 (c :: ps) _] (fun e he => by
    simp only [List.mem_cons, List.not_mem_nil, or_false] at he
    rcases he with rfl | rfl
    · exact ⟨h1, hh b (by simp)⟩
    · exact ⟨⟨h0, (List.nodup_cons.1 hd).2, ps, rfl, h2, h4⟩, RefRest.firm, fun x hx => hh x (List.mem_cons_of_mem _ hx)⟩) (by simpa [Ent.own] using hd) (fun x hx => .inl (by simpa [Ent.own] using hx))
theorem Hp.refClose {b c : Nat} {S2 : List Nat} {pv : Value} {dur : List (List UInt8)} {pend : List (Nat × List UInt8)} (H : Hp T w0 w (.blk b [.slice (some ⟨c, 0, none⟩) dur.length dur.length, pv] 73 :: .obj 9 S2 (RefRest c pv dur pend S2) :: l)) : Hp T w0 w (.obj b (b :: S2) (RefAt b dur pend (b :: S2)) :: l) := by
  obtain ⟨h0, hn, ps, rfl, h2, h4⟩ := (show RefRest c pv dur pend S2 w from (H.ok _ (.tail _ (.head _))).1)
  have hh := (H.ok _ (.tail _ (.head _))).2.2
  have hb := H.ok _ (.head _)
  have hnd : (b :: c :: ps).Nodup := by
    have := H.nodup
    simp only [List.flatMap_cons, Ent.own, List.cons_append, List.nil_append] at this
    have h := List.nodup_cons.1 this
    exact List.nodup_cons.2 ⟨fun hx => h.1 (by simp only [List.mem_cons, List.mem_append] at hx ⊢; rcases hx with h | h <;> simp [h]), hn⟩
  exact Hp.front (lo := [.blk b _ _, .obj 9 _ _]) H (Fr.refl _ _) [.obj b (b :: c :: ps) _] (fun e he => by
    simp only [List.mem_cons, List.not_mem_nil, or_false] at he
    subst he
    refine ⟨⟨h0, c, pv, ps, rfl, hnd, hb.1, h2, h4⟩, Fm.h, fun x hx => ?_⟩
    rcases List.mem_cons.1 hx with rfl | h
    · exact hb.2
    · exact hh x h) (by simpa [Ent.own] using hnd) (fun x hx => .inl (by simpa [Ent.own] using hx))
end
end Go.Proofs.Ytgnpgikbdomdpaa
