/-
  The document's pool as an object: how it shows a state, where it lies.
-/
import Derived.Test.YthlhjjokodmihaaRq1
import Derived.Test.YthlhjjokodmihaaPe4
namespace Go.Proofs.Ythlhjjokodmihaa
open Go.RowKit
set_option linter.unusedSimpArgs false
set_option linter.unusedVariables false
def atX (s : PS) (t : Nat) : Int := if s.sta[t]?.getD 0 = 1 then s.loc[t]?.getD 0 else -1
def atW (s : PS) : List Int := (List.range s.par.length).map (atX s)
def failW (s : PS) : List Bool := s.sta.map fun x => x == 4
@[simp] theorem atW_len (s : PS) : (atW s).length = s.par.length := by simp [atW]
@[simp] theorem failW_len (s : PS) : (failW s).length = s.sta.length := by simp [failW]
@[simp] theorem doneW_len (s : PS) : (doneW s).length = s.sta.length := by simp [doneW]
theorem atW_at {s : PS} {t : Nat} (h : t < s.par.length) : (atW s)[t]? = some (atX s t) := by
  unfold atW; rw [List.getElem?_map, List.getElem?_range h]; rfl
theorem atX_of {s : PS} {t : Nat} {x y : Int} (h1 : s.sta[t]? = some x) (h2 : s.loc[t]? = some y) : atX s t = if x = 1 then y else -1 := by unfold atX; rw [h1, h2]; rfl
/-- What the document's pool needs: it holds in every state that is reached. -/
structure PJ (s : PS) : Prop where
  wf : PW s
  run : ∀ v t : Nat, s.tas[v]? = some (t : Int) → s.sta[t]? = some 2
  one : ∀ u v t : Nat, s.tas[u]? = some (t : Int) → s.tas[v]? = some (t : Int) → u = v
  rdy : ∀ t : Nat, s.sta[t]? = some 1 → ∃ v : Nat, s.loc[t]? = some (v : Int) ∧ s.liv[v]? = some true
  kid : ∀ (t : Nat) (x : Int), s.sta[t]? = some x → x ≠ 0 → held s t = false
theorem PJ.at {s : PS} (J : PJ s) {t : Nat} {v : Int} (h : (atW s)[t]? = some v) (h0 : 0 ≤ v) : s.sta[t]? = some 1 ∧ s.loc[t]? = some v := by
  have ht : t < s.par.length := by have := (List.getElem?_eq_some_iff.1 h).1; simpa using this
  rw [atW_at ht] at h
  injection h with h
  obtain ⟨x, hx⟩ : ∃ x, s.sta[t]? = some x := ⟨_, List.getElem?_eq_getElem (by rw [J.wf.sta]; exact ht)⟩
  obtain ⟨y, hy⟩ : ∃ y, s.loc[t]? = some y := ⟨_, List.getElem?_eq_getElem (by rw [J.wf.loc]; exact ht)⟩
  rw [atX_of hx hy] at h
  split at h
  · rename_i e; subst e; subst h; exact ⟨hx, hy⟩
  · omega
theorem PJ.notAt {s : PS} (J : PJ s) {t : Nat} {v y : Int} (h : (atW s)[t]? = some y) (hne : ¬ (0 ≤ v ∧ y = v)) : ¬ (s.sta[t]? = some 1 ∧ s.loc[t]? = some v) := fun ⟨h1, h2⟩ => by
  have ht : t < s.par.length := by have := (List.getElem?_eq_some_iff.1 h).1; simpa using this
  rw [atW_at ht, atX_of h1 h2, if_pos rfl] at h
  injection h with h
  obtain ⟨u, hu, _⟩ := J.rdy t h1
  rw [h2] at hu
  injection hu with hu
  exact hne ⟨by omega, h.symm⟩
theorem readyF_no' {s : PS} (hw : PW s) {w : Int} {i : Nat} (hi : i < s.par.length) (h : ¬ (s.sta[i]? = some 1 ∧ s.loc[i]? = some w)) : readyF s w (i + 1) = readyF s w i := by
  obtain ⟨x, hx⟩ : ∃ x, s.sta[i]? = some x := ⟨_, List.getElem?_eq_getElem (by rw [hw.sta]; exact hi)⟩
  obtain ⟨y, hy⟩ : ∃ y, s.loc[i]? = some y := ⟨_, List.getElem?_eq_getElem (by rw [hw.loc]; exact hi)⟩
  refine readyF_no hx hy ?_
  by_cases e : x = 1
  · exact .inr (fun e2 => h ⟨by rw [hx, e], by rw [hy, e2]⟩)
  · exact .inl e
/-- Where the document's pool lies. -/
structure DA where
  b : Nat
  gp : Nat
  go : Nat
  gd : Nat
  gf : Nat
  gt : Nat
  gl : Nat
  cp : Nat
  co : Nat
  cd : Nat
  cf : Nat
  ct : Nat
  cl : Nat
  va : Value
  Sa : List Nat
def DA.hdr (A : DA) (n k : Nat) : List Value := [.slice (some ⟨A.gp, 0, none⟩) n A.cp, .slice (some ⟨A.go, 0, none⟩) n A.co, A.va, .slice (some ⟨A.gd, 0, none⟩) n A.cd, .slice (some ⟨A.gf, 0, none⟩) n A.cf, .slice (some ⟨A.gt, 0, none⟩) k A.ct, .slice (some ⟨A.gl, 0, none⟩) k A.cl]
def DA.S (A : DA) : List Nat := A.b :: A.gp :: A.go :: A.gd :: A.gf :: A.gt :: A.gl :: A.Sa
def DA.T (A : DA) : List Nat := A.gd :: A.gf :: A.gt :: A.gl :: A.Sa
structure DIn (A : DA) (s : PS) (w : World) : Prop where
  nd : A.S.Nodup
  hb : w.heap[A.b]? = some (.cells (A.hdr s.par.length s.tas.length).toArray 63 (0, 0))
  hp : ∃ pad, w.heap[A.gp]? = some (.cells (ints s.par ++ pad).toArray 3 (0, 0))
  ho : ∃ pad, w.heap[A.go]? = some (.cells (ints s.own ++ pad).toArray 3 (0, 0))
  hd : ∃ pad, w.heap[A.gd]? = some (.cells (boolsV (doneW s) ++ pad).toArray 4 (0, 0))
  hf : ∃ pad, w.heap[A.gf]? = some (.cells (boolsV (failW s) ++ pad).toArray 4 (0, 0))
  ht : ∃ pad, w.heap[A.gt]? = some (.cells (ints s.tas ++ pad).toArray 3 (0, 0))
  hl : ∃ pad, w.heap[A.gl]? = some (.cells (boolsV s.liv ++ pad).toArray 4 (0, 0))
  ha : RowAt 3 1 A.va s.par.length (ints (atW s)) A.Sa w
def DAt (A : DA) (s : PS) (S : List Nat) (w : World) : Prop := S = A.S ∧ DIn A s w
theorem DIn.fr {A : DA} {s : PS} {w w' : World} {R : List Nat} (h : DIn A s w) (k : Fr R w w') (hn : ∀ x ∈ A.S, x ∉ R) : DIn A s w' := by
  obtain ⟨p1, h1⟩ := h.hp
  obtain ⟨p2, h2⟩ := h.ho
  obtain ⟨p3, h3⟩ := h.hd
  obtain ⟨p4, h4⟩ := h.hf
  obtain ⟨p5, h5⟩ := h.ht
  obtain ⟨p6, h6⟩ := h.hl
  refine ⟨h.nd, k.get h.hb (hn _ (by simp [DA.S])), ⟨p1, k.get h1 (hn _ (by simp [DA.S]))⟩, ⟨p2, k.get h2 (hn _ (by simp [DA.S]))⟩, ⟨p3, k.get h3 (hn _ (by simp [DA.S]))⟩, ⟨p4, k.get h4 (hn _ (by simp [DA.S]))⟩, ⟨p5, k.get h5 (hn _ (by simp [DA.S]))⟩, ⟨p6, k.get h6 (hn _ (by simp [DA.S]))⟩, ?_⟩
  exact RowAt.firm.fr w w' R k (fun x hx => hn x (by simp [DA.S, hx])) h.ha
theorem DAt.firm {A : DA} {s : PS} {S : List Nat} : Firm S (DAt A s S) := by
  refine ⟨fun w w' R k hn h => ?_, fun w h x hx => ?_, fun w h => ?_⟩
  · obtain ⟨rfl, h⟩ := h
    exact ⟨rfl, h.fr k hn⟩
  · obtain ⟨rfl, h⟩ := h
    obtain ⟨p1, h1⟩ := h.hp
    obtain ⟨p2, h2⟩ := h.ho
    obtain ⟨p3, h3⟩ := h.hd
    obtain ⟨p4, h4⟩ := h.hf
    obtain ⟨p5, h5⟩ := h.ht
    obtain ⟨p6, h6⟩ := h.hl
    simp only [DA.S, List.mem_cons] at hx
    rcases hx with rfl | rfl | rfl | rfl | rfl | rfl | rfl | hx
    · exact lt_of_get h.hb
    · exact lt_of_get h1
    · exact lt_of_get h2
    · exact lt_of_get h3
    · exact lt_of_get h4
    · exact lt_of_get h5
    · exact lt_of_get h6
    · exact RowAt.firm.lt w h.ha x hx
  · obtain ⟨rfl, h⟩ := h
    exact h.nd
instance {A : DA} {s : PS} {S : List Nat} : Fm S (DAt A s S) := ⟨DAt.firm⟩
theorem DIn.o {A : DA} {s : PS} {w : World} (h : DIn A s w) : DAt A s A.S w := ⟨rfl, h⟩
theorem Hp.dpool {T : List Nat} {w0 w : World} {l : List Ent} (H : Hp T w0 w l) (k : Nat) {S S2 : List Nat} {A : DA} {s : PS} {f : Ent → List Ent} [i : Oi k S (DAt A s S2) l f] : DIn A s w := (show DAt A s S2 w from H.ob k).2
theorem DA.ne {A : DA} (h : A.S.Nodup) : A.b ∉ A.T ∧ A.gp ∉ A.T ∧ A.go ∉ A.T ∧ A.T.Nodup := by
  simp only [DA.S, List.nodup_cons, List.mem_cons, not_or] at h
  obtain ⟨⟨a1, a2, a3, a4, a5, a6, a7⟩, ⟨b1, b2, b3, b4, b5, b6⟩, ⟨c1, c2, c3, c4, c5⟩, ⟨d1, d2, d3, d4⟩, ⟨e1, e2, e3⟩, ⟨f1, f2⟩, g1, g2⟩ := h
  simp only [DA.T, List.nodup_cons, List.mem_cons, not_or]
  exact ⟨⟨a3, a4, a5, a6, a7⟩, ⟨b2, b3, b4, b5, b6⟩, ⟨c1, c2, c3, c4, c5⟩, ⟨d1, d2, d3, d4⟩, ⟨e1, e2, e3⟩, ⟨f1, f2⟩, g1, g2⟩
theorem DIn.rdo {A : DA} {s : PS} {w : World} (h : DIn A s w) : Hp [] w w [.rng A.b 0 [.slice (some ⟨A.gp, 0, none⟩) s.par.length A.cp, .slice (some ⟨A.go, 0, none⟩) s.par.length A.co, A.va, .slice (some ⟨A.gd, 0, none⟩) s.par.length A.cd, .slice (some ⟨A.gf, 0, none⟩) s.par.length A.cf, .slice (some ⟨A.gt, 0, none⟩) s.tas.length A.ct, .slice (some ⟨A.gl, 0, none⟩) s.tas.length A.cl], .rng A.gp 0 (ints s.par), .rng A.go 0 (ints s.own), .rng A.gd 0 (boolsV (doneW s)), .rng A.gt 0 (ints s.tas), .rng A.gl 0 (boolsV s.liv)] := by
  obtain ⟨p1, h1⟩ := h.hp
  obtain ⟨p2, h2⟩ := h.ho
  obtain ⟨p3, h3⟩ := h.hd
  obtain ⟨p5, h5⟩ := h.ht
  obtain ⟨p6, h6⟩ := h.hl
  have H := (Hp.start [] w).pushRng (b := A.gl) (off := 0) (cs := boolsV s.liv) (lt_of_get h6) (by simp) (row_cell h6)
  have H := H.pushRng (b := A.gt) (off := 0) (cs := ints s.tas) (lt_of_get h5) (by simp) (row_cell h5)
  have H := H.pushRng (b := A.gd) (off := 0) (cs := boolsV (doneW s)) (lt_of_get h3) (by simp) (row_cell h3)
  have H := H.pushRng (b := A.go) (off := 0) (cs := ints s.own) (lt_of_get h2) (by simp) (row_cell h2)
  have H := H.pushRng (b := A.gp) (off := 0) (cs := ints s.par) (lt_of_get h1) (by simp) (row_cell h1)
  exact H.pushRng (b := A.b) (off := 0) (lt_of_get h.hb) (by simp) (row_cell0 h.hb)
/-- Opened to be written; At is nil. -/
theorem DIn.wro0 {A : DA} {s : PS} {w : World} (h : DIn A s w) (h0 : A.va = .slice none 0 0) (hs0 : A.Sa = []) : ∃ padd padf padt padl, Hp A.T w w [.rng A.b 0 [.slice (some ⟨A.gp, 0, none⟩) s.par.length A.cp, .slice (some ⟨A.go, 0, none⟩) s.par.length A.co, A.va, .slice (some ⟨A.gd, 0, none⟩) s.par.length A.cd, .slice (some ⟨A.gf, 0, none⟩) s.par.length A.cf, .slice (some ⟨A.gt, 0, none⟩) s.tas.length A.ct, .slice (some ⟨A.gl, 0, none⟩) s.tas.length A.cl], .rng A.gp 0 (ints s.par), .rng A.go 0 (ints s.own), .blk A.gd (boolsV (doneW s) ++ padd) 4, .blk A.gf (boolsV (failW s) ++ padf) 4, .blk A.gt (ints s.tas ++ padt) 3, .blk A.gl (boolsV s.liv ++ padl) 4] := by
  obtain ⟨p1, h1⟩ := h.hp
  obtain ⟨p2, h2⟩ := h.ho
  obtain ⟨p3, h3⟩ := h.hd
  obtain ⟨p4, h4⟩ := h.hf
  obtain ⟨p5, h5⟩ := h.ht
  obtain ⟨p6, h6⟩ := h.hl
  obtain ⟨nb, np, no, nt⟩ := DA.ne h.nd
  simp only [DA.T, List.nodup_cons, List.mem_cons, not_or] at nt
  obtain ⟨⟨d1, d2, d3, _⟩, ⟨e1, e2, _⟩, ⟨f1, _⟩, _⟩ := nt
  have H := (Hp.start A.T w).push h6 (.inl (by simp [DA.T])) (by simp)
  have H := H.push h5 (.inl (by simp [DA.T])) (by simp [Ent.own, f1])
  have H := H.push h4 (.inl (by simp [DA.T])) (by simp [Ent.own, e1, e2])
  have H := H.push h3 (.inl (by simp [DA.T])) (by simp [Ent.own, d1, d2, d3])
  have H := H.pushRng (b := A.go) (off := 0) (cs := ints s.own) (lt_of_get h2) no (row_cell h2)
  have H := H.pushRng (b := A.gp) (off := 0) (cs := ints s.par) (lt_of_get h1) np (row_cell h1)
  exact ⟨p3, p4, p5, p6, H.pushRng (b := A.b) (off := 0) (lt_of_get h.hb) nb (row_cell0 h.hb)⟩
/-- Opened to be written; there is a row of readiness. -/
theorem DIn.wro {A : DA} {s : PS} {w : World} (h : DIn A s w) {ga ca : Nat} {pada : List Value} (hs : A.Sa = [ga]) (hg : w.heap[ga]? = some (.cells (ints (atW s) ++ pada).toArray 3 (0, 0))) : ∃ padd padf padt padl, Hp A.T w w [.rng A.b 0 [.slice (some ⟨A.gp, 0, none⟩) s.par.length A.cp, .slice (some ⟨A.go, 0, none⟩) s.par.length A.co, A.va, .slice (some ⟨A.gd, 0, none⟩) s.par.length A.cd, .slice (some ⟨A.gf, 0, none⟩) s.par.length A.cf, .slice (some ⟨A.gt, 0, none⟩) s.tas.length A.ct, .slice (some ⟨A.gl, 0, none⟩) s.tas.length A.cl], .rng A.gp 0 (ints s.par), .rng A.go 0 (ints s.own), .blk ga (ints (atW s) ++ pada) 3, .blk A.gd (boolsV (doneW s) ++ padd) 4, .blk A.gf (boolsV (failW s) ++ padf) 4, .blk A.gt (ints s.tas ++ padt) 3, .blk A.gl (boolsV s.liv ++ padl) 4] := by
  obtain ⟨p1, h1⟩ := h.hp
  obtain ⟨p2, h2⟩ := h.ho
  obtain ⟨p3, h3⟩ := h.hd
  obtain ⟨p4, h4⟩ := h.hf
  obtain ⟨p5, h5⟩ := h.ht
  obtain ⟨p6, h6⟩ := h.hl
  obtain ⟨nb, np, no, nt⟩ := DA.ne h.nd
  simp only [DA.T, hs, List.nodup_cons, List.mem_cons, not_or, List.not_mem_nil, or_false] at nt
  obtain ⟨⟨d1, d2, d3, d4⟩, ⟨e1, e2, e3⟩, ⟨f1, f2⟩, g1, _⟩ := nt
  have H := (Hp.start A.T w).push h6 (.inl (by simp [DA.T])) (by simp)
  have H := H.push h5 (.inl (by simp [DA.T])) (by simp [Ent.own, f1])
  have H := H.push h4 (.inl (by simp [DA.T])) (by simp [Ent.own, e1, e2])
  have H := H.push h3 (.inl (by simp [DA.T])) (by simp [Ent.own, d1, d2, d3])
  have H := H.push hg (.inl (by simp [DA.T, hs])) (by simp [Ent.own]; exact ⟨Ne.symm d4, Ne.symm e3, Ne.symm f2, Ne.symm g1⟩)
  have H := H.pushRng (b := A.go) (off := 0) (cs := ints s.own) (lt_of_get h2) no (row_cell h2)
  have H := H.pushRng (b := A.gp) (off := 0) (cs := ints s.par) (lt_of_get h1) np (row_cell h1)
  exact ⟨p3, p4, p5, p6, H.pushRng (b := A.b) (off := 0) (lt_of_get h.hb) nb (row_cell0 h.hb)⟩
/-- And shut again. -/
theorem DIn.cls {A : DA} {s s' : PS} {w w1 : World} (h : DIn A s w) {padd padf padt padl : List Value} (H : Hp A.T w w1 [.blk A.gd (boolsV (doneW s') ++ padd) 4, .blk A.gf (boolsV (failW s') ++ padf) 4, .blk A.gt (ints s'.tas ++ padt) 3, .blk A.gl (boolsV s'.liv ++ padl) 4]) (hp : s'.par = s.par) (ho : s'.own = s.own) (hk : s'.tas.length = s.tas.length)
    (ha : RowAt 3 1 A.va s'.par.length (ints (atW s')) A.Sa w1) : DIn A s' w1 := by
  obtain ⟨p1, h1⟩ := h.hp
  obtain ⟨p2, h2⟩ := h.ho
  obtain ⟨nb, np, no, nt⟩ := DA.ne h.nd
  refine ⟨h.nd, ?_, ⟨p1, by rw [hp]; exact H.fr.get h1 np⟩, ⟨p2, by rw [ho]; exact H.fr.get h2 no⟩, ⟨padd, H.at A.gd⟩, ⟨padf, H.at A.gf⟩, ⟨padt, H.at A.gt⟩, ⟨padl, H.at A.gl⟩, ha⟩
  rw [hp, hk]
  exact H.fr.get h.hb nb
theorem heldD_view {s : PS} (hw : PW s) (t : Nat) : heldD s.par (doneW s) t = held s t := by
  rw [Bool.eq_iff_iff, held_iff hw]
  unfold heldD
  rw [List.any_eq_true]
  constructor
  · rintro ⟨c, hc, h⟩
    have hc := List.mem_range.1 hc
    obtain ⟨x, hx⟩ : ∃ x, s.sta[c]? = some x := ⟨_, List.getElem?_eq_getElem (by rw [hw.sta]; exact hc)⟩
    obtain ⟨p, hp⟩ : ∃ p, s.par[c]? = some p := ⟨_, List.getElem?_eq_getElem hc⟩
    have hd : (doneW s)[c]? = some (x == 3) := by unfold doneW; rw [List.getElem?_map, hx]; rfl
    rw [hp, hd] at h
    simp at h
    exact ⟨c, hc, by rw [hp, h.1], by rw [hx]; simp [h.2]⟩
  · rintro ⟨c, hc, hp, hs⟩
    obtain ⟨x, hx⟩ : ∃ x, s.sta[c]? = some x := ⟨_, List.getElem?_eq_getElem (by rw [hw.sta]; exact hc)⟩
    have hd : (doneW s)[c]? = some (x == 3) := by unfold doneW; rw [List.getElem?_map, hx]; rfl
    refine ⟨c, List.mem_range.2 hc, ?_⟩
    rw [hp, hd]
    rw [hx] at hs
    simp at hs
    simp [hs]
end Go.Proofs.Ythlhjjokodmihaa
