/-
  General lemmas: slice literals, nil checks, objects in front, calls of Mod.
-/
import Derived.Test.YthbeeeclgbpopaaGreatDoorRow
import Derived.Test.YthbeeeclgbpopaaGreatDoorArg
import Derived.Test.YthbeeeclgbpopaaGreatDoorTy
namespace Go.Proofs.YthbeeeclgbpopaaGreatDoor
open Go.RowKit
set_option linter.unusedSimpArgs false
set_option linter.unusedVariables false
theorem length_flat {α β : Type} (g : α → List β) (n : Nat) : ∀ (l : List α), (∀ x ∈ l, (g x).length = n) → (l.flatMap g).length = l.length * n
  | [], _ => by simp
  | x :: l, h => by
    rw [List.flatMap_cons, List.length_append, h x List.mem_cons_self, length_flat g n l (fun y hy => h y (List.mem_cons_of_mem _ hy)), List.length_cons, Nat.add_mul]; omega
theorem drop_flat {α β : Type} (g : α → List β) (n : Nat) : ∀ (l : List α) (k : Nat), (∀ x ∈ l, (g x).length = n) → (l.flatMap g).drop (k * n) = (l.drop k).flatMap g
  | [], k, _ => by simp
  | x :: l, 0, _ => by simp
  | x :: l, k + 1, h => by
    have hx := h x List.mem_cons_self
    rw [List.flatMap_cons, List.drop_succ_cons, ← drop_flat g n l k (fun y hy => h y (List.mem_cons_of_mem _ hy)), List.drop_append, hx]
    rw [List.drop_eq_nil_of_le (by rw [hx, Nat.add_mul]; omega), List.nil_append]
    congr 1; rw [Nat.add_mul]; omega
theorem lt_of_cell {w : World} {a : Addr} {v : Value} (h : w.cell? a = some v) : a.block < w.heap.size := by
  unfold World.cell? at h
  by_cases hb : a.block < w.heap.size
  · exact hb
  · rw [Array.getElem?_eq_none (by omega)] at h
    simp at h
section
variable {P : Program} {ops : Array Oper} {Q : Exit → Act → World → Prop} {a : Act} {w w0 : World} {rest : List Oper} {o : Oper} {K : Act → World → Prop} {T : List Nat} {l : List Ent} {L : List Value} {ds : List Deferred}
theorem Parts.sized {s : Nat} {i : Nat} {ps : List (Nat × Operand)} {css : List (List Value)} (h : Parts L i ps css) (hs : ∀ c ∈ css, c.length = s) : ∃ vs : List Value, (ps.map fun (i, x) => (i, (Act.mk L.toArray ds).eval x)) = partsFrom i vs ∧ (vs.flatMap fun v => v.cells.toList) = css.flatten ∧ vs.length = css.length ∧ ∀ v ∈ vs, v.cells.size = s := by
  induction h with
  | nil i => exact ⟨[], rfl, rfl, rfl, by simp⟩
  | @tmp i n v c ps cs h hc k ih =>
    obtain ⟨vs, h1, h2, h3, h4⟩ := ih (fun c hc => hs c (List.mem_cons_of_mem _ hc))
    have e : (Act.mk L.toArray ds).eval (.tmp n) = v := by simp [Act.eval, h]
    refine ⟨v :: vs, by simp [partsFrom, h1, e], by simp [h2, hc], by simp [h3], fun u hu => ?_⟩
    rcases List.mem_cons.1 hu with rfl | hu
    · rw [hc]; simpa using hs c List.mem_cons_self
    · exact h4 u hu
  | @con i v c ps cs hc k ih =>
    obtain ⟨vs, h1, h2, h3, h4⟩ := ih (fun c hc => hs c (List.mem_cons_of_mem _ hc))
    have e : (Act.mk L.toArray ds).eval (.const v) = v := rfl
    refine ⟨v :: vs, by simp [partsFrom, h1, e], by simp [h2, hc], by simp [h3], fun u hu => ?_⟩
    rcases List.mem_cons.1 hu with rfl | hu
    · rw [hc]; simpa using hs c List.mem_cons_self
    · exact h4 u hu
theorem fits_row (s : Nat) : ∀ (vs : List Value) (i : Nat), (∀ v ∈ vs, v.cells.size = s) → fits (fun i => some (i * s, s)) i (i * s) vs = true
  | [], _, _ => rfl
  | v :: vs, i, h => by
    have hv := h v List.mem_cons_self
    simp only [fits, hv, beq_self_eq_true, Bool.true_and]
    rw [show i * s + s = (i + 1) * s by rw [Nat.add_mul]; omega]
    exact fits_row s vs (i + 1) (fun u hu => h u (List.mem_cons_of_mem _ hu))
/-- A slice literal of n elements. -/
theorem c_sN (H : Hp T w0 w l) {t : TypeId} {n : Nat} {ps : List (Nat × Operand)} (ho : o.op = .buildSlice t n ps.toArray) {css : List (List Value)} (hp : Parts L 0 ps css) {e : TypeId} {z : List Value} {s by' : Nat} [hsi : Si P t e z s by'] (hn : css.length = n) (hs : ∀ c ∈ css, c.length = s) (h24 : n * s ≤ 16777216) (h0 : s ≠ 0)
    (h : ∀ g w', w0.heap.size ≤ g ∧ w.heap.size ≤ g → Fr [] w w' → Hp T w0 w' (.blk g css.flatten e :: l) → K (Act.put (Act.mk L.toArray ds) o.dst (.slice (some ⟨g, 0, none⟩) n n)) w') : o.wp P (Act.mk L.toArray ds) w K Q := by
  obtain ⟨hu, i, zv, h2, h3, h4, h5, h6⟩ := si_spec hsi.h
  subst h5 h6
  obtain ⟨vs, hv1, hv2, hv3, hv4⟩ := hp.sized (ds := ds) hs
  have e1 : (Instr.buildSlice t n ((ps.toArray.map fun (i, x) => (i, (Act.mk L.toArray ds).eval x)))).run P w = .ok (.slice (some ⟨w.heap.size, 0, none⟩) n n) (w.alloc (.cells css.flatten.toArray e)) := by
    have hl : (vs.flatMap fun v => v.cells.toList).length = n * i.size := by
      rw [length_flat (fun v : Value => v.cells.toList) i.size vs (fun v hv => by rw [Array.length_toList]; exact hv4 v hv), hv3, hn]
    have hf := fill_all (fun k => some (k * i.size, i.size)) vs 0 [] ((Array.range (n * i.size)).map (zv.cells[· % zv.cells.size]!)).toList (by simpa using fits_row i.size vs 0 hv4) (by rw [hl]; simp)
    rw [hl, List.drop_eq_nil_of_le (by simp), List.append_nil, List.nil_append, List.nil_append, hv2] at hf
    have e2 : (ps.toArray.map fun (i, x) => (i, (Act.mk L.toArray ds).eval x)).toList = partsFrom 0 vs := by simpa using hv1
    simp only [Instr.buildSlice, Sem.run_bind, run_underlying hu, Result.andThen_ok, sizeOf, typeInfo, run_program, h2, Sem.run_pure, zeroValue]
    rw [if_neg (by omega)]
    by_cases hz0 : n * i.size = 0
    · have hn0 : n = 0 := by rcases Nat.mul_eq_zero.1 hz0 with h | h; exact h; exact absurd h h0
      subst hn0
      have hc0 : css = [] := List.eq_nil_of_length_eq_zero hn
      subst hc0
      have hp0 : ps = [] := by cases hp; rfl
      subst hp0
      simp [Instr.fill, newRow, run_newObj]
      congr 1; congr 1; apply Array.ext'; simp [Array.range]
    · rw [if_neg hz0]
      simp only [Sem.run_bind, Sem.run_pure, Result.andThen_ok, run_program, h2, h3, e2]
      rw [Array.toArray_toList] at hf
      simp only [hf, newRow, Sem.run_bind, run_newObj, Result.andThen_ok, Sem.run_pure]
      rfl
  refine wp_of_run ?_ (h _ _ ⟨H.fr.size, Nat.le_refl _⟩ (Fr.alloc [] w _) (H.alloc css.flatten e))
  unfold execOp; simp only [ho, Sem.run_bind, e1, Result.andThen_ok, Sem.run_pure]
end

theorem Rd.addr {w : World} {v : Value} {n : Nat} {cs : List Value} (h : Rd w v n cs) (hc : cs ≠ []) : ∃ b off c, v = .slice (some ⟨b, off, none⟩) n c ∧ b < w.heap.size ∧ ∀ (j : Nat) u, cs[j]? = some u → w.cell? ⟨b, off + j, none⟩ = some u := by
  rcases h with ⟨_, h4, _⟩ | ⟨ad, c', rfl, h5⟩
  · exact absurd h4 hc
  · obtain ⟨x, xs, rfl⟩ : ∃ x xs, cs = x :: xs := by cases cs with | nil => exact absurd rfl hc | cons x xs => exact ⟨x, xs, rfl⟩
    obtain ⟨b, off, spot⟩ := ad
    have h9 := h5 0 x rfl
    have hs : spot = none := by simpa [Addr.add] using World.cell?_spot h9
    subst hs
    refine ⟨b, off, c', rfl, by simpa [Addr.add] using lt_of_cell h9, fun j u hj => ?_⟩
    have := h5 j u hj
    rwa [add_mk] at this

theorem Rd.form {w : World} {v : Value} {n : Nat} {cs : List Value} (h : Rd w v n cs) : ∃ p c, v = .slice p n c := by
  rcases h with ⟨rfl, _, p, c, rfl⟩ | ⟨ad, c, rfl, _⟩
  · exact ⟨p, c, rfl⟩
  · exact ⟨_, c, rfl⟩

section
variable {P : Program} {Q : Exit → Act → World → Prop} {a : Act} {w : World} {o : Oper} {lo : List Oper}
theorem ev_not {t : TypeId} {x : Operand} (ho : o.op = .unOp .not t x) {b : Bool} (hx : a.eval x = .bool b) : (execOp a.eval o).run P w = .ok (.value (.bool (!b))) w := by
  unfold execOp; simp [ho, hx, Op.unary]
theorem c_seq {t t' : TypeId} {x : Operand} (ho : o.op = .binOp .eql t x (.const (.slice none 0 0)) t') {p : Option Addr} {n c : Nat} (hx : a.eval x = .slice p n c) {e : TypeId} {z : List Value} {s by' : Nat} [h : Si P t e z s by'] : (execOp a.eval o).run P w = .ok (.value (.bool p.isNone)) w := by
  obtain ⟨hu, _⟩ := si_spec h.h
  have e1 : (eqGuard .eql t x (.const (.slice none 0 0)) (.slice p n c) (.slice none 0 0)).run P w = .ok () w := by unfold eqGuard; simp
  have hn : a.eval (.const (.slice none 0 0)) = .slice none 0 0 := rfl
  unfold execOp
  simp only [ho, hx, hn, Sem.run_bind, e1, Result.andThen_ok]
  have e2 : (Op.equal t (.slice p n c) (.slice none 0 0)).run P w = .ok p.isNone w := by
    unfold Op.equal Op.maxDepth
    rw [Op.equalIn]
    simp only [Sem.run_bind, run_underlying hu, Result.andThen_ok]
    cases p <;> rfl
  have e3 : (binOp .eql t (.slice p n c) (.slice none 0 0)).run P w = .ok (.bool p.isNone) w := by
    show ((do pure (Value.bool (← Op.equal t (.slice p n c) (.slice none 0 0))) : Sem Value)).run P w = _
    simp only [Sem.run_bind, e2, Result.andThen_ok, Sem.run_pure]
  simp only [e3, Result.andThen_ok, Sem.run_pure]
theorem pl_ldno {S : World → Prop} {f i : Nat} {k : Plan} (hi : lo[i]? = some o) (hw : Region.wanted o (yielded lo.toArray a.tmps) = false) (hS : i ≠ f → S w) (h : k.wp P lo.toArray Q S f (a.put o.dst undef) w) : Plan.wp P lo.toArray Q S f (.ld i k) a w := by
  unfold Plan.wp wpOp
  have hi' : lo.toArray[i]? = some o := by simpa using hi
  simp only [hi', hw]
  exact ⟨hS, h⟩
end

theorem ev_extract {P : Program} {a : Act} {w : World} {o : Oper} {x : Operand} {i : Nat} (ho : o.op = .extract x i) {vs : Array Value} (hx : a.eval x = .tuple vs) {v : Value} (hv : vs.toList[i]? = some v) : (execOp a.eval o).run P w = .ok (.value v) w := by
  have hv' : vs[i]? = some v := by rw [← Array.getElem?_toList]; exact hv
  unfold execOp; simp [ho, hx, Instr.extract, hv']
/-- append to a slice that is nil or owns its block; the form of the result is told. -/
theorem c_aprS {P : Program} {Q : Exit → Act → World → Prop} {a : Act} {w w0 : World} {o : Oper} {K : Act → World → Prop} {T : List Nat} {l : List Ent} (H : Hp T w0 w l) {t : TypeId} {s x : Operand} (ho : o.op = .call { callee := .builtin .append, args := #[s, x], argTypes := #[t, t] })
    {v : Value} (hs : a.eval s = v) {q : Option Addr} {m c : Nat} (hx : a.eval x = .slice q m c) {e : TypeId} {z : List Value} {sz by' : Nat} [hsi : Si P t e z sz by']
    (k : Nat) {S : List Nat} {n : Nat} {xs : List Value} {f : Ent → List Ent} [i : Oi k S (RowAt e sz v n xs S) l f]
    {news : List Value} (hr : Rd w (.slice q m c) m news) (hl : news.length = m * sz) (h1 : ∀ u ∈ news, u.oneCell' = true)
    (h48 : (n + m) * by' ≤ 140737488355328) (h63 : n + m ≤ maxLen)
    (h : ∀ p' c' w' S', Fr S w w' → Hp T w0 w' (f (.obj k S' (RowAt e sz (.slice p' (n + m) c') (n + m) (xs ++ news) S'))) → K (a.put o.dst (.slice p' (n + m) c')) w') : o.wp P a w K Q :=
  c_apr H ho hs hx k hr hl h1 h48 h63 (fun v' w' S' hf H1 => by
    have hm := (i.r (.obj k S' (RowAt e sz v' (n + m) (xs ++ news) S')) (.obj k S' (RowAt e sz v' (n + m) (xs ++ news) S'))).mem
    obtain ⟨p', c', rfl, _⟩ := RowAt.form (H1.ok _ hm).1
    exact h p' c' w' S' hf H1)

/-! ### Known objects in front -/
section
variable {T : List Nat} {w0 w w' : World} {l : List Ent}
theorem Hp.perm {l' : List Ent} (H : Hp T w0 w l) (h : List.Perm l l') : Hp T w0 w l' :=
  ⟨H.fr, fun e he => H.ok e (h.mem_iff.2 he), (h.flatMap_right _).nodup H.nodup⟩
/-- l holds the object k; l' is the rest. -/
class Dl (k : Nat) (S : outParam (List Nat)) (Q : outParam (World → Prop)) (l : List Ent) (l' : outParam (List Ent)) : Prop where
  h : List.Perm l (.obj k S Q :: l')
instance Dl.here {k : Nat} {S : List Nat} {Q : World → Prop} {l : List Ent} : Dl k S Q (.obj k S Q :: l) l := ⟨List.Perm.refl _⟩
instance (priority := low) Dl.there {k : Nat} {S : List Nat} {Q : World → Prop} {l l' : List Ent} {e : Ent} [h : Dl k S Q l l'] : Dl k S Q (e :: l) (e :: l') := ⟨(h.h.cons e).trans (List.Perm.swap _ _ _)⟩
theorem Hp.pull (H : Hp T w0 w l) (k : Nat) {S : List Nat} {Q : World → Prop} {l' : List Ent} [d : Dl k S Q l l'] : Hp T w0 w (.obj k S Q :: l') := H.perm d.h
/-- A step that changes the entries in front. -/
theorem Hp.front {lo : List Ent} (H : Hp T w0 w (lo ++ l)) (hF : Fr (lo.flatMap Ent.own) w w') (ln : List Ent) (hok : ∀ e ∈ ln, e.ok T w0 w') (hnd : (ln.flatMap Ent.own).Nodup) (hfr : ∀ x ∈ ln.flatMap Ent.own, x ∈ lo.flatMap Ent.own ∨ w.heap.size ≤ x) : Hp T w0 w' (ln ++ l) := by
  have hn := H.nodup
  rw [List.flatMap_append] at hn
  have hn' := List.nodup_append.1 hn
  refine ⟨H.fr.andThen hF (fun x hx => ?_), fun e he => ?_, ?_⟩
  · obtain ⟨e, he, hx⟩ := List.mem_flatMap.1 hx
    exact Ent.home (H.ok e (List.mem_append_left _ he)) x hx
  · rcases List.mem_append.1 he with he | he
    · exact hok e he
    · exact Ent.stay (H.ok e (List.mem_append_right _ he)) hF (fun x hx hm => hn'.2.2 x hm x (List.mem_flatMap.2 ⟨e, he, hx⟩) rfl)
  · rw [List.flatMap_append]
    refine List.nodup_append.2 ⟨hnd, hn'.2.1, fun x hx y hy e => ?_⟩
    subst e
    rcases hfr x hx with h | h
    · exact hn'.2.2 x h x hy rfl
    · have := H.ownLt x (by rw [List.flatMap_append]; exact List.mem_append_right _ hy)
      omega
/-- Two objects change. -/
theorem Hp.upd2 {k1 k2 : Nat} {S1 S2 S1' S2' : List Nat} {Q1 Q2 Q1' Q2' : World → Prop} (H : Hp T w0 w (.obj k1 S1 Q1 :: .obj k2 S2 Q2 :: l)) (hF : Fr (S1 ++ S2) w w') (h1 : Q1' w') (h2 : Q2' w') (f1 : ∀ x ∈ S1', x ∈ S1 ++ S2 ∨ w.heap.size ≤ x) (f2 : ∀ x ∈ S2', x ∈ S1 ++ S2 ∨ w.heap.size ≤ x) (hd : ∀ x ∈ S1', x ∉ S2') [m1 : Fm S1' Q1'] [m2 : Fm S2' Q2'] : Hp T w0 w' (.obj k1 S1' Q1' :: .obj k2 S2' Q2' :: l) := by
  have hh : ∀ x ∈ S1 ++ S2, x ∈ T ∨ w0.heap.size ≤ x := fun x hx => (List.mem_append.1 hx).elim ((H.ok _ (.head _)).2.2 x) ((H.ok _ (.tail _ (.head _))).2.2 x)
  have up : ∀ {S' : List Nat}, (∀ x ∈ S', x ∈ S1 ++ S2 ∨ w.heap.size ≤ x) → ∀ x ∈ S', x ∈ T ∨ w0.heap.size ≤ x := fun h x hx => (h x hx).elim (hh x) (fun h => .inr (Nat.le_trans H.fr.size h))
  refine Hp.front (lo := [.obj k1 S1 Q1, .obj k2 S2 Q2]) H (by simpa [Ent.own] using hF) [.obj k1 S1' Q1', .obj k2 S2' Q2'] (fun e he => ?_) ?_ ?_
  · simp only [List.mem_cons, List.not_mem_nil, or_false] at he
    rcases he with rfl | rfl
    · exact ⟨h1, m1.h, up f1⟩
    · exact ⟨h2, m2.h, up f2⟩
  · simp only [List.flatMap_cons, List.flatMap_nil, Ent.own, List.append_nil]
    exact List.nodup_append.2 ⟨m1.h.nd _ h1, m2.h.nd _ h2, fun x hx y hy e => hd x hx (e ▸ hy)⟩
  · simp only [List.flatMap_cons, List.flatMap_nil, Ent.own, List.append_nil]
    exact fun x hx => (List.mem_append.1 hx).elim (f1 x) (f2 x)
/-- One object changes, and another is born. -/
theorem Hp.updNew {k1 k2 : Nat} {S S1' S2' : List Nat} {Q Q1' Q2' : World → Prop} (H : Hp T w0 w (.obj k2 S Q :: l)) (hF : Fr S w w') (h1 : Q1' w') (h2 : Q2' w') (f1 : ∀ x ∈ S1', x ∈ S ∨ w.heap.size ≤ x) (f2 : ∀ x ∈ S2', x ∈ S ∨ w.heap.size ≤ x) (hd : ∀ x ∈ S1', x ∉ S2') [m1 : Fm S1' Q1'] [m2 : Fm S2' Q2'] : Hp T w0 w' (.obj k1 S1' Q1' :: .obj k2 S2' Q2' :: l) := by
  have hh := (H.ok _ (.head _)).2.2
  have up : ∀ {S' : List Nat}, (∀ x ∈ S', x ∈ S ∨ w.heap.size ≤ x) → ∀ x ∈ S', x ∈ T ∨ w0.heap.size ≤ x := fun h x hx => (h x hx).elim (hh x) (fun h => .inr (Nat.le_trans H.fr.size h))
  refine Hp.front (lo := [.obj k2 S Q]) H (by simpa [Ent.own] using hF) [.obj k1 S1' Q1', .obj k2 S2' Q2'] (fun e he => ?_) ?_ ?_
  · simp only [List.mem_cons, List.not_mem_nil, or_false] at he
    rcases he with rfl | rfl
    · exact ⟨h1, m1.h, up f1⟩
    · exact ⟨h2, m2.h, up f2⟩
  · simp only [List.flatMap_cons, List.flatMap_nil, Ent.own, List.append_nil]
    exact List.nodup_append.2 ⟨m1.h.nd _ h1, m2.h.nd _ h2, fun x hx y hy e => hd x hx (e ▸ hy)⟩
  · simp only [List.flatMap_cons, List.flatMap_nil, Ent.own, List.append_nil]
    exact fun x hx => (List.mem_append.1 hx).elim (f1 x) (f2 x)
end

theorem piece_flat {α β : Type} (g : α → List β) (n : Nat) (l : List α) (k : Nat) (x : α) (h : ∀ x ∈ l, (g x).length = n) (hk : l[k]? = some x) : g x <+: (l.flatMap g).drop (k * n) := by
  rw [drop_flat g n l k h]
  obtain ⟨hlt, rfl⟩ := List.getElem?_eq_some_iff.1 hk
  rw [List.drop_eq_getElem_cons hlt, List.flatMap_cons]
  exact List.prefix_append _ _

section
variable {T : List Nat} {w0 w : World} {l : List Ent}
theorem Hp.swap2 {x y : Ent} (H : Hp T w0 w (x :: y :: l)) : Hp T w0 w (y :: x :: l) :=
  ⟨H.fr, fun e he => H.ok e (by simp only [List.mem_cons] at he ⊢; rcases he with h | h | h <;> simp [h]), by
    have := H.nodup
    simp only [List.flatMap_cons] at this ⊢
    rw [← List.append_assoc] at this ⊢
    exact (List.Perm.append_right _ List.perm_append_comm).nodup this⟩

theorem Hp.oldT (H : Hp T w0 w l) (k : Nat) {S : List Nat} {Q : World → Prop} {f : Ent → List Ent} [i : Oi k S Q l f] {R : World → Prop} (h : ∀ w', Fr T w0 w' → R w') : ∀ w', Fr S w w' → R w' :=
  fun w' hF => h w' (H.fr.andThen hF (H.home k))

theorem Hp.rowo (H : Hp T w0 w l) (k : Nat) {S S2 : List Nat} {e : TypeId} {sz n : Nat} {v : Value} {xs : List Value} {f : Ent → List Ent} [i : Oi k S (RowAt e sz v n xs S2) l f] : RowAt e sz v n xs S2 w := H.ob k
end

theorem SArg.fr {w w' : World} {v : Value} {n : Nat} {cs : List Value} (h : SArg w v n cs) (k : Fr [] w w') : SArg w' v n cs := by
  obtain ⟨p, c, rfl, h1, h2, h3, h4⟩ := h
  exact ⟨p, c, rfl, h1, h2, h3, fun w2 k2 => h4 w2 (k.trans k2)⟩

theorem cell_off {T : List Nat} {w0 w : World} {l : List Ent} {b off k f : Nat} {cs : List Value} {v : Value} (H : Hp T w0 w l) [i : Rn b off cs l] (h : cs[k + f]? = some v) : w.cell? ⟨b, off + k + f, none⟩ = some v := by
  have := H.rngCell i.h h
  rwa [← Nat.add_assoc] at this

theorem pre_atJ {cs vs : List Value} {p j : Nat} {v : Value} (h : vs <+: cs.drop p) (hj : vs[j]? = some v) : cs[p + j]? = some v := by
  obtain ⟨r, hr⟩ := h
  have : (cs.drop p)[j]? = some v := by rw [← hr, List.getElem?_append_left (List.getElem?_eq_some_iff.1 hj).1]; exact hj
  rwa [List.getElem?_drop] at this

theorem mod_nat (a : Int) (b : Nat) (h : 0 < b) : ∃ m : Nat, a % 18446744073709551616 % (b : Int) = m ∧ m < b := by
  have h1 := Int.emod_nonneg (a % 18446744073709551616) (show (b : Int) ≠ 0 by omega)
  have h2 := Int.emod_lt_of_pos (a % 18446744073709551616) (show (0 : Int) < b by omega)
  exact ⟨(a % 18446744073709551616 % (b : Int)).toNat, by omega, by omega⟩
end Go.Proofs.YthbeeeclgbpopaaGreatDoor
