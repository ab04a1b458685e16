/-
  Slices that a function builds by append: one law for the nil slice and for the slice that owns its block.
-/
import Derived.Test.YthbeeeclgbpopaaGreatDoorEv
namespace Go.Proofs.YthbeeeclgbpopaaGreatDoor
open Go.RowKit
set_option linter.unusedSimpArgs false
set_option linter.unusedVariables false
/-- The slice value v of n elements (sz cells each, of type e) is nil, or owns its block from its head; its cells are xs; S: its blocks. -/
def RowAt (e : TypeId) (sz : Nat) (v : Value) (n : Nat) (xs : List Value) (S : List Nat) (w : World) : Prop :=
  xs.length = n * sz ∧ ((S = [] ∧ n = 0 ∧ v = .slice none 0 0) ∨ ∃ g cap pad, S = [g] ∧ v = .slice (some ⟨g, 0, none⟩) n cap ∧ n ≤ cap ∧ cap ≤ maxLen ∧ (xs ++ pad).length = cap * sz ∧ w.heap[g]? = some (.cells (xs ++ pad).toArray e (0, 0)))
theorem RowAt.nil {e : TypeId} {sz : Nat} (w : World) : RowAt e sz (.slice none 0 0) 0 [] [] w := ⟨by simp, .inl ⟨rfl, rfl, rfl⟩⟩
theorem RowAt.firm {e : TypeId} {sz : Nat} {v : Value} {n : Nat} {xs : List Value} {S : List Nat} : Firm S (RowAt e sz v n xs S) := by
  refine ⟨fun w w' R k hn h => ?_, fun w h x hx => ?_, fun w h => ?_⟩
  · obtain ⟨h0, h | ⟨g, cap, pad, rfl, h1, h2, h3, h4, h5⟩⟩ := h
    · exact ⟨h0, .inl h⟩
    · exact ⟨h0, .inr ⟨g, cap, pad, rfl, h1, h2, h3, h4, k.get h5 (hn g (by simp))⟩⟩
  · obtain ⟨h0, ⟨rfl, _⟩ | ⟨g, cap, pad, rfl, h1, h2, h3, h4, h5⟩⟩ := h
    · simp at hx
    · simp only [List.mem_singleton] at hx; subst hx; exact lt_of_get h5
  · obtain ⟨h0, ⟨rfl, _⟩ | ⟨g, cap, pad, rfl, h1, h2, h3, h4, h5⟩⟩ := h <;> simp
instance {e : TypeId} {sz : Nat} {v : Value} {n : Nat} {xs : List Value} {S : List Nat} : Fm S (RowAt e sz v n xs S) := ⟨RowAt.firm⟩
theorem RowAt.form {e : TypeId} {sz : Nat} {v : Value} {n : Nat} {xs : List Value} {S : List Nat} {w : World} (h : RowAt e sz v n xs S w) : ∃ p c, v = .slice p n c ∧ n ≤ c ∧ c ≤ maxLen ∧ (p = none → c = 0) := by
  obtain ⟨h0, ⟨rfl, rfl, rfl⟩ | ⟨g, cap, pad, rfl, rfl, h2, h3, h4, h5⟩⟩ := h
  · exact ⟨none, 0, rfl, Nat.le_refl _, Nat.zero_le _, fun _ => rfl⟩
  · exact ⟨_, cap, rfl, h2, h3, by simp⟩
theorem RowAt.rd {e : TypeId} {sz : Nat} {v : Value} {n : Nat} {xs : List Value} {S : List Nat} {w : World} (h : RowAt e sz v n xs S w) : Rd w v n xs := by
  obtain ⟨h0, ⟨rfl, rfl, rfl⟩ | ⟨g, cap, pad, rfl, rfl, h2, h3, h4, h5⟩⟩ := h
  · exact .inl ⟨rfl, List.eq_nil_of_length_eq_zero (by simpa using h0), none, 0, rfl⟩
  · refine .inr ⟨_, cap, rfl, fun j u hj => ?_⟩
    rw [add_mk, cell_of_row w g _ _ _ _ h5, Nat.zero_add]
    simpa using (by rw [List.getElem?_append_left (List.getElem?_eq_some_iff.1 hj).1]; exact hj : (xs ++ pad)[j]? = some u)
/-- A returned slice that owns its block, as an object. -/
theorem RowAt.of_owns {w' : World} {base : Nat} {e : TypeId} {sz n : Nat} {v : Value} {xs : List Value} (h : w'.ownsRow base e sz v n xs) : ∃ S, RowAt e sz v n xs S w' ∧ ∀ x ∈ S, base ≤ x := by
  obtain ⟨hx, ⟨h1, h2⟩ | ⟨g, cap, cur, rfl, hb, hg, h1, h2, h3, h4⟩⟩ := h
  · subst h2; exact ⟨[], ⟨hx, .inl ⟨rfl, rfl, h1⟩⟩, by simp⟩
  · have e1 : cur = (xs ++ cur.toList.drop xs.length).toArray := by
      apply Array.ext'
      show cur.toList = xs ++ cur.toList.drop xs.length
      rw [hx]
      exact (congrArg (· ++ cur.toList.drop (n * sz)) h4).symm ▸ (List.take_append_drop _ _).symm
    refine ⟨[g], ⟨hx, .inr ⟨g, cap, cur.toList.drop xs.length, rfl, rfl, h1, h2, ?_, by rw [← e1]; exact hg⟩⟩, by simpa using hb⟩
    have := congrArg Array.size e1
    simp only [List.size_toArray] at this
    omega
theorem RowAt.owns {w : World} {base : Nat} {e : TypeId} {sz n : Nat} {v : Value} {xs : List Value} {S : List Nat} (h : RowAt e sz v n xs S w) (hb : ∀ x ∈ S, base ≤ x) : w.ownsRow base e sz v n xs := by
  obtain ⟨h0, ⟨rfl, rfl, rfl⟩ | ⟨g, cap, pad, rfl, rfl, h2, h3, h4, h5⟩⟩ := h
  · have : xs = [] := List.eq_nil_of_length_eq_zero (by simpa using h0)
    subst this; exact World.ownsRow_nil _ _ _ _
  · exact ⟨h0, .inr ⟨g, cap, _, rfl, hb g (by simp), h5, h2, h3, by simpa using h4, by rw [← h0]; simp⟩⟩

section
variable {P : Program} {ops : Array Oper} {Q : Exit → Act → World → Prop} {a : Act} {w w0 : World} {rest : List Oper} {o : Oper} {K : Act → World → Prop} {T : List Nat} {l : List Ent}
/-- One entry seen otherwise. -/
theorem Hp.recast (H : Hp T w0 w l) {e e1 : Ent} {l1 : List Ent} (h : Rep e e1 l l1) (ho : e1.own = e.own) (hk : e1.ok T w0 w) : Hp T w0 w l1 :=
  ⟨H.fr, fun x hx => by
    rcases h.of H.nodup x hx with rfl | ⟨h1, _⟩
    · exact hk
    · exact H.ok x h1, h.nodup H.nodup (by
      rw [ho]
      have hn := H.nodup
      have : List.Sublist e.own (l.flatMap Ent.own) := by
        have hm := h.mem
        clear h hk hn ho
        induction l with
        | nil => cases hm
        | cons y l ih =>
          rw [List.flatMap_cons]
          cases hm with
          | head => exact List.sublist_append_left _ _
          | tail _ hm => exact (ih ⟨H.fr, fun x hx => H.ok x (List.mem_cons_of_mem _ hx), (List.nodup_append.1 (by simpa using H.nodup)).2.1⟩ hm).trans (List.sublist_append_right _ _)
      exact this.nodup hn) (fun x hx => .inl (ho ▸ hx))⟩
/-- append to a slice that is nil or owns its block. -/
theorem c_apr (H : Hp T w0 w l) {t : TypeId} {s x : Operand} (ho : o.op = .call { callee := .builtin .append, args := #[s, x], argTypes := #[t, t] })
    {v : Value} (hs : a.eval s = v) {q : Option Addr} {m c : Nat} (hx : a.eval x = .slice q m c) {e : TypeId} {z : List Value} {sz by' : Nat} [hsi : Si P t e z sz by']
    (k : Nat) {S : List Nat} {n : Nat} {xs : List Value} {f : Ent → List Ent} [i : Oi k S (RowAt e sz v n xs S) l f]
    {news : List Value} (hr : Rd w (.slice q m c) m news) (hl : news.length = m * sz) (h1 : ∀ u ∈ news, u.oneCell' = true)
    (h48 : (n + m) * by' ≤ 140737488355328) (h63 : n + m ≤ maxLen)
    (h : ∀ v' w' S', Fr S w w' → Hp T w0 w' (f (.obj k S' (RowAt e sz v' (n + m) (xs ++ news) S'))) → K (a.put o.dst v') w') : o.wp P a w K Q := by
  have hob := H.ob k
  obtain ⟨h0, ⟨rfl, rfl, rfl⟩ | ⟨g, cap, pad, rfl, rfl, h2, h3, h4, h5⟩⟩ := hob
  · have hxs : xs = [] := List.eq_nil_of_length_eq_zero (by simpa using h0)
    subst hxs
    by_cases hm : m = 0
    · subst hm
      have hn : news = [] := List.eq_nil_of_length_eq_zero (by simpa using hl)
      subst hn
      exact la_appendNone H ho hs hx hsi.h (fun w' k1 H1 => h _ w' [] k1 (by
        have e1 : f (.obj k [] (RowAt e sz (.slice none 0 0) 0 [] [])) = l := Rep.same (i.h _)
        simpa [e1] using H1))
    · obtain ⟨ad, rfl⟩ : ∃ ad, q = some ad := by
        rcases hr with ⟨h6, _⟩ | ⟨ad, c', h6, _⟩
        · exact absurd h6 hm
        · injection h6 with h7 _ _; exact ⟨ad, h7⟩
      refine la_appendNil H ho hs hx hsi.h hsi.z hr hl (by omega) (by simpa using h48) (by unfold maxLen at h63; omega) (fun g w' cap pad hg hc hcm hpl hf H1 => h _ w' [g] hf ?_)
      refine H.upd' (S' := [g]) (i.h _) hf (Q' := RowAt e sz _ (0 + m) ([] ++ news) [g]) ?_ RowAt.firm (fun x hx => .inr (by simp only [List.mem_singleton] at hx; subst hx; exact hg.2))
      refine ⟨by simpa using hl, .inr ⟨g, cap, pad, rfl, by rw [Nat.zero_add], by omega, hcm, by simpa using hpl, ?_⟩⟩
      simpa using H1.get (.head _)
  · by_cases hm : m = 0
    · subst hm
      have hn : news = [] := List.eq_nil_of_length_eq_zero (by simpa using hl)
      subst hn
      exact la_appendZero H ho hs h2 hx hsi.h (fun w' k1 H1 => h _ w' [g] (k1.mono (by simp)) (by
        rw [List.append_nil, Nat.add_zero, ← i.e]; exact H1))
    · obtain ⟨ad, rfl⟩ : ∃ ad, q = some ad := by
        rcases hr with ⟨h6, _⟩ | ⟨ad, c', h6, _⟩
        · exact absurd h6 hm
        · injection h6 with h7 _ _; exact ⟨ad, h7⟩
      have H' : Hp T w0 w (f (.blk g (xs ++ pad) e)) := H.recast (i.h _) rfl ⟨h5, H.home k g (by simp)⟩
      refine la_appendOwn H' ho hs hx hsi.h hsi.z (fun g cs1 => i.r _ _) (List.prefix_append _ _) h0 h4 h3 hr hl h1 (by omega) h48 h63 (fun g' w' cap' pad' hg hc hcm hpl hf H1 => h _ w' [g'] hf ?_)
      have hm1 := (i.r (.blk g' (xs ++ news ++ pad') e) (.obj k [] (fun _ => True))).mem
      refine H1.recast (i.r _ _) rfl ⟨⟨by rw [List.length_append, h0, hl, Nat.add_mul], .inr ⟨g', cap', pad', rfl, rfl, hc, hcm, hpl, H1.get hm1⟩⟩, RowAt.firm, fun x hx => ?_⟩
      simp only [List.mem_singleton] at hx
      subst hx
      exact (H1.ok _ hm1).2
theorem Hp.newRow (H : Hp T w0 w l) (k : Nat) {e : TypeId} {sz : Nat} : Hp T w0 w (.obj k [] (RowAt e sz (.slice none 0 0) 0 [] []) :: l) := H.pushObj k (RowAt.nil w) RowAt.firm (by simp) (by simp)
/-- A returned slice is known from then on as an object. -/
theorem Hp.rowNew (H : Hp T w0 w l) (k : Nat) {w' : World} (hF : Fr [] w w') {e : TypeId} {sz n : Nat} {v : Value} {xs : List Value} (h : w'.ownsRow w.heap.size e sz v n xs) : ∃ S, Hp T w0 w' (.obj k S (RowAt e sz v n xs S) :: l) := by
  obtain ⟨S, h1, h2⟩ := RowAt.of_owns h
  exact ⟨S, H.born k hF h1 RowAt.firm h2⟩
/-- Two objects lie apart. -/
theorem two_apart {k k' : Nat} {S S' : List Nat} {Q Q' : World → Prop} (H : Hp T w0 w [.obj k S Q, .obj k' S' Q']) : ∀ x ∈ S, x ∉ S' := by
  have := H.nodup
  simp only [List.flatMap_cons, List.flatMap_nil, Ent.own, List.append_nil] at this
  exact fun x hx h' => (List.nodup_append.1 this).2.2 x hx x h' rfl
end
end Go.Proofs.YthbeeeclgbpopaaGreatDoor
