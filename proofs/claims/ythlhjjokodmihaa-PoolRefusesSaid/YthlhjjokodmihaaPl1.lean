/-
  The pool: its state in plain Lean, what its methods do to it, and how it lies in memory.
-/
import Derived.Test.YthlhjjokodmihaaGen
import Derived.Test.YthlhjjokodmihaaTy
namespace Go.Proofs.Ythlhjjokodmihaa
open Go.RowKit
set_option linter.unusedSimpArgs false
set_option linter.unusedVariables false
def ints (l : List Int) : List Value := l.map (Value.int .i64)
def boolsV (l : List Bool) : List Value := l.map Value.bool
@[simp] theorem ints_len (l : List Int) : (ints l).length = l.length := by simp [ints]
@[simp] theorem boolsV_len (l : List Bool) : (boolsV l).length = l.length := by simp [boolsV]
theorem ints_at {l : List Int} {i : Nat} {x : Int} (h : l[i]? = some x) : (ints l)[i]? = some (.int .i64 x) := by simp [ints, h]
theorem boolsV_at {l : List Bool} {i : Nat} {x : Bool} (h : l[i]? = some x) : (boolsV l)[i]? = some (.bool x) := by simp [boolsV, h]
theorem ints_set (l : List Int) (i : Nat) (x : Int) : (ints l).set i (.int .i64 x) = ints (l.set i x) := by simp [ints, List.map_set]
theorem boolsV_set (l : List Bool) (i : Nat) (x : Bool) : (boolsV l).set i (.bool x) = boolsV (l.set i x) := by simp [boolsV, List.map_set]
theorem intsP_set (l : List Int) (pad : List Value) (i : Nat) (x : Int) (h : i < l.length) : (ints l ++ pad).set i (.int .i64 x) = ints (l.set i x) ++ pad := by
  rw [List.set_append_left _ _ (by simpa using h), ints_set]
theorem boolsP_set (l : List Bool) (pad : List Value) (i : Nat) (x : Bool) (h : i < l.length) : (boolsV l ++ pad).set i (.bool x) = boolsV (l.set i x) ++ pad := by
  rw [List.set_append_left _ _ (by simpa using h), boolsV_set]
theorem pre_at {cs : List Value} {pad : List Value} {i : Nat} {v : Value} (h : cs[i]? = some v) : (cs ++ pad)[i]? = some v := by
  rw [List.getElem?_append_left (List.getElem?_eq_some_iff.1 h).1]; exact h
theorem ints_one (l : List Int) : ∀ u ∈ ints l, u.oneCell' = true := by intro u hu; simp [ints] at hu; obtain ⟨c, _, rfl⟩ := hu; rfl
/-- A pool: by task its parent, owner, state, the worker at which it is ready; by worker its task, whether it is live. -/
structure PS where
  par : List Int
  own : List Int
  sta : List Int
  loc : List Int
  tas : List Int
  liv : List Bool
/-- What every pool keeps. -/
structure PW (s : PS) : Prop where
  own : s.own.length = s.par.length
  sta : s.sta.length = s.par.length
  loc : s.loc.length = s.par.length
  liv : s.liv.length = s.tas.length
  k1 : 1 ≤ s.tas.length
  k8 : s.tas.length ≤ 8
  n : s.par.length ≤ 200
  par' : ∀ (t : Nat) (p : Int), s.par[t]? = some p → p = -1 ∨ ∃ q : Nat, p = q ∧ t < q ∧ q < s.par.length
  own' : ∀ (t : Nat) (w : Int), s.own[t]? = some w → ∃ q : Nat, w = q ∧ q < s.tas.length
  tas' : ∀ (w : Nat) (t : Int), s.tas[w]? = some t → t = -1 ∨ ∃ q : Nat, t = q ∧ q < s.par.length
  live : ∃ w : Nat, s.liv[w]? = some true
/-- The next live worker of w. -/
def nextW (liv : List Bool) (w : Nat) : Nat := (w + (List.range liv.length).findIdx (fun j => liv[(w + j) % liv.length]?.getD false)) % liv.length
def isW (s : PS) (w : Int) : Bool := decide (0 ≤ w) && s.liv[w.toNat]?.getD false
/-- The tasks that are ready at w. -/
def readyW (s : PS) (w : Int) : List Nat := (List.range s.par.length).filter fun t => s.sta[t]?.getD 0 == 1 && s.loc[t]?.getD 0 == w
def readyV (l : List Nat) : List Value := l.map fun t : Nat => Value.int .i64 (t : Int)
/-- A child of t is not done. -/
def held (s : PS) (t : Nat) : Bool := (List.range s.par.length).any fun c => s.par[c]?.getD 0 == (t : Int) && s.sta[c]?.getD 0 != 3
def release (s : PS) (t : Nat) : PS :=
  if s.sta[t]?.getD 0 ≠ 0 then s else if held s t then s else
    { s with sta := s.sta.set t 1, loc := s.loc.set t ((nextW s.liv (s.own[t]?.getD 0).toNat : Nat) : Int) }
def chooseF (s : PS) : Nat → Int × Nat
  | 0 => (-1, 0)
  | v + 1 => if (chooseF s v).2 < (readyW s v).length then (((readyW s v).getLast?.getD 0 : Nat), (readyW s v).length) else chooseF s v
def choose (s : PS) (w : Int) : Int := match readyW s w with
  | t :: _ => t
  | [] => (chooseF s s.tas.length).1
def runW (s : PS) (w : Int) : Int := if w < 0 then -1 else s.tas[w.toNat]?.getD (-1)
def take (s : PS) (w : Int) : (Int × Int) × PS :=
  if isW s w = false then ((-1, 330), s) else if 0 ≤ runW s w then ((-1, 332), s) else
    ((choose s w, 0), if 0 ≤ choose s w then { s with sta := s.sta.set (choose s w).toNat 2, tas := s.tas.set w.toNat (choose s w) } else s)
def ended (s : PS) (w : Int) (x : Int) : PS := { s with sta := s.sta.set (runW s w).toNat x, tas := s.tas.set w.toNat (-1) }
def endW (s : PS) (w : Int) (x : Int) : (Int × Int) × PS :=
  if isW s w = false then ((-1, 330), s) else if runW s w < 0 then ((-1, 333), s) else
    ((runW s w, 0), if 0 ≤ s.par[(runW s w).toNat]?.getD 0 then release (ended s w x) (s.par[(runW s w).toNat]?.getD 0).toNat else ended s w x)
def moved (s : PS) (w : Int) (to : Nat) : List Int := (readyW s w).foldl (fun l t => l.set t (to : Int)) s.loc
def lose (s : PS) (w : Int) : Int × PS :=
  if isW s w = false then (330, s) else if (s.liv.set w.toNat false).contains true = false then (330, s) else
    (0, if 0 ≤ runW s w then { s with liv := s.liv.set w.toNat false, sta := s.sta.set (runW s w).toNat 1, loc := (moved s w (nextW (s.liv.set w.toNat false) w.toNat)).set (runW s w).toNat ((nextW (s.liv.set w.toNat false) w.toNat : Nat) : Int), tas := s.tas.set w.toNat (-1) }
      else { s with liv := s.liv.set w.toNat false, loc := moved s w (nextW (s.liv.set w.toNat false) w.toNat) })
def join (s : PS) (w : Int) : Int × PS :=
  if w < 0 ∨ (s.liv.length : Int) ≤ w then (330, s) else if s.liv[w.toNat]?.getD false then (330, s) else (0, { s with liv := s.liv.set w.toNat true })
def doneW (s : PS) : List Bool := s.sta.map fun x => x == 3
def leftW (s : PS) : Nat := (s.sta.filter fun x => x != 3).length
/-- Where a pool lies. -/
structure PA where
  b : Nat
  gs : Nat
  ga : Nat
  gt : Nat
  gl : Nat
  ct : Nat
  cl : Nat
  vp : Value
  vo : Value
  S1 : List Nat
  S2 : List Nat
def PA.hdr (A : PA) (n k : Nat) : List Value := [A.vp, A.vo, .slice (some ⟨A.gs, 0, none⟩) n n, .slice (some ⟨A.ga, 0, none⟩) n n, .slice (some ⟨A.gt, 0, none⟩) k A.ct, .slice (some ⟨A.gl, 0, none⟩) k A.cl]
def PA.S (A : PA) : List Nat := A.b :: A.gs :: A.ga :: A.gt :: A.gl :: (A.S1 ++ A.S2)
def PA.T (A : PA) : List Nat := [A.gs, A.ga, A.gt, A.gl]
structure PoolIn (A : PA) (s : PS) (w : World) : Prop where
  nd : A.S.Nodup
  hb : w.heap[A.b]? = some (.cells (A.hdr s.par.length s.tas.length).toArray 59 (0, 0))
  hs : w.heap[A.gs]? = some (.cells (ints s.sta).toArray 3 (0, 0))
  ha : w.heap[A.ga]? = some (.cells (ints s.loc).toArray 3 (0, 0))
  ht : ∃ pad, w.heap[A.gt]? = some (.cells (ints s.tas ++ pad).toArray 3 (0, 0))
  hl : ∃ pad, w.heap[A.gl]? = some (.cells (boolsV s.liv ++ pad).toArray 4 (0, 0))
  hp : RowAt 3 1 A.vp s.par.length (ints s.par) A.S1 w
  ho : RowAt 3 1 A.vo s.par.length (ints s.own) A.S2 w
  wf : PW s
def PoolAt (A : PA) (s : PS) (S : List Nat) (w : World) : Prop := S = A.S ∧ PoolIn A s w
theorem PoolIn.fr {A : PA} {s : PS} {w w' : World} {R : List Nat} (h : PoolIn A s w) (k : Fr R w w') (hn : ∀ x ∈ A.S, x ∉ R) : PoolIn A s w' := by
  obtain ⟨p1, h1⟩ := h.ht
  obtain ⟨p2, h2⟩ := h.hl
  refine ⟨h.nd, k.get h.hb (hn _ (by simp [PA.S])), k.get h.hs (hn _ (by simp [PA.S])), k.get h.ha (hn _ (by simp [PA.S])), ⟨p1, k.get h1 (hn _ (by simp [PA.S]))⟩, ⟨p2, k.get h2 (hn _ (by simp [PA.S]))⟩, ?_, ?_, h.wf⟩
  · exact RowAt.firm.fr w w' R k (fun x hx => hn x (by simp [PA.S, hx])) h.hp
  · exact RowAt.firm.fr w w' R k (fun x hx => hn x (by simp [PA.S, hx])) h.ho
theorem PoolAt.firm {A : PA} {s : PS} {S : List Nat} : Firm S (PoolAt A s S) := by
  refine ⟨fun w w' R k hn h => ?_, fun w h x hx => ?_, fun w h => ?_⟩
  · obtain ⟨rfl, h⟩ := h
    exact ⟨rfl, h.fr k hn⟩
  · obtain ⟨rfl, h⟩ := h
    obtain ⟨p1, h1⟩ := h.ht
    obtain ⟨p2, h2⟩ := h.hl
    simp only [PA.S, List.mem_cons, List.mem_append] at hx
    rcases hx with rfl | rfl | rfl | rfl | rfl | hx | hx
    · exact lt_of_get h.hb
    · exact lt_of_get h.hs
    · exact lt_of_get h.ha
    · exact lt_of_get h1
    · exact lt_of_get h2
    · exact RowAt.firm.lt w h.hp x hx
    · exact RowAt.firm.lt w h.ho x hx
  · obtain ⟨rfl, h⟩ := h
    exact h.nd
instance {A : PA} {s : PS} {S : List Nat} : Fm S (PoolAt A s S) := ⟨PoolAt.firm⟩
theorem PoolIn.o {A : PA} {s : PS} {w : World} (h : PoolIn A s w) : PoolAt A s A.S w := ⟨rfl, h⟩
theorem Hp.pool {T : List Nat} {w0 w : World} {l : List Ent} (H : Hp T w0 w l) (k : Nat) {S S2 : List Nat} {A : PA} {s : PS} {f : Ent → List Ent} [i : Oi k S (PoolAt A s S2) l f] : PoolIn A s w := (show PoolAt A s S2 w from H.ob k).2
theorem row_cell {w : World} {g : Nat} {cs pad : List Value} {e : TypeId} (h : w.heap[g]? = some (.cells (cs ++ pad).toArray e (0, 0))) : ∀ (j : Nat) u, cs[j]? = some u → w.cell? ⟨g, 0 + j, none⟩ = some u := fun j u hj => by
  rw [cell_of_row w g _ _ _ _ h, Nat.zero_add]; simpa using pre_at (pad := pad) hj
theorem row_cell0 {w : World} {g : Nat} {cs : List Value} {e : TypeId} (h : w.heap[g]? = some (.cells cs.toArray e (0, 0))) : ∀ (j : Nat) u, cs[j]? = some u → w.cell? ⟨g, 0 + j, none⟩ = some u := fun j u hj => by
  rw [cell_of_row w g _ _ _ _ h, Nat.zero_add]; simpa using hj
/-- A pool opened to be read. -/
theorem PoolIn.rdo {A : PA} {s : PS} {w : World} (h : PoolIn A s w) : Hp [] w w [.rng A.b 0 [A.vp, A.vo, .slice (some ⟨A.gs, 0, none⟩) s.par.length s.par.length, .slice (some ⟨A.ga, 0, none⟩) s.par.length s.par.length, .slice (some ⟨A.gt, 0, none⟩) s.tas.length A.ct, .slice (some ⟨A.gl, 0, none⟩) s.tas.length A.cl], .rng A.gs 0 (ints s.sta), .rng A.ga 0 (ints s.loc), .rng A.gt 0 (ints s.tas), .rng A.gl 0 (boolsV s.liv)] := by
  obtain ⟨p1, h1⟩ := h.ht
  obtain ⟨p2, h2⟩ := h.hl
  have H := (Hp.start [] w).pushRng (b := A.gl) (off := 0) (cs := boolsV s.liv) (lt_of_get h2) (by simp) (row_cell h2)
  have H := H.pushRng (b := A.gt) (off := 0) (cs := ints s.tas) (lt_of_get h1) (by simp) (row_cell h1)
  have H := H.pushRng (b := A.ga) (off := 0) (cs := ints s.loc) (lt_of_get h.ha) (by simp) (row_cell0 h.ha)
  have H := H.pushRng (b := A.gs) (off := 0) (cs := ints s.sta) (lt_of_get h.hs) (by simp) (row_cell0 h.hs)
  exact H.pushRng (b := A.b) (off := 0) (lt_of_get h.hb) (by simp) (row_cell0 h.hb)
theorem PA.ne {A : PA} (h : A.S.Nodup) : (A.b ≠ A.gs ∧ A.b ≠ A.ga ∧ A.b ≠ A.gt ∧ A.b ≠ A.gl) ∧ (A.gs ≠ A.ga ∧ A.gs ≠ A.gt ∧ A.gs ≠ A.gl) ∧ (A.ga ≠ A.gt ∧ A.ga ≠ A.gl) ∧ A.gt ≠ A.gl ∧ (∀ x ∈ A.S1, x ∉ A.T) ∧ ∀ x ∈ A.S2, x ∉ A.T := by
  simp only [PA.S, List.nodup_cons, List.mem_cons, List.mem_append, not_or] at h
  obtain ⟨⟨a1, a2, a3, a4, a5⟩, ⟨b1, b2, b3, b4⟩, ⟨c1, c2, c3⟩, ⟨d1, d2⟩, e1, _⟩ := h
  refine ⟨⟨a1, a2, a3, a4⟩, ⟨b1, b2, b3⟩, ⟨c1, c2⟩, d1, fun x hx hT => ?_, fun x hx hT => ?_⟩
  · simp only [PA.T, List.mem_cons, List.not_mem_nil, or_false] at hT
    rcases hT with rfl | rfl | rfl | rfl
    · exact b4.1 hx
    · exact c3.1 hx
    · exact d2.1 hx
    · exact e1.1 hx
  · simp only [PA.T, List.mem_cons, List.not_mem_nil, or_false] at hT
    rcases hT with rfl | rfl | rfl | rfl
    · exact b4.2 hx
    · exact c3.2 hx
    · exact d2.2 hx
    · exact e1.2 hx
/-- A pool opened to be written. -/
theorem PoolIn.wro {A : PA} {s : PS} {w : World} (h : PoolIn A s w) : ∃ padt padl, Hp A.T w w [.rng A.b 0 [A.vp, A.vo, .slice (some ⟨A.gs, 0, none⟩) s.par.length s.par.length, .slice (some ⟨A.ga, 0, none⟩) s.par.length s.par.length, .slice (some ⟨A.gt, 0, none⟩) s.tas.length A.ct, .slice (some ⟨A.gl, 0, none⟩) s.tas.length A.cl], .blk A.gs (ints s.sta) 3, .blk A.ga (ints s.loc) 3, .blk A.gt (ints s.tas ++ padt) 3, .blk A.gl (boolsV s.liv ++ padl) 4] := by
  obtain ⟨p1, h1⟩ := h.ht
  obtain ⟨p2, h2⟩ := h.hl
  obtain ⟨⟨a1, a2, a3, a4⟩, ⟨b1, b2, b3⟩, ⟨c1, c2⟩, d1, _⟩ := PA.ne h.nd
  have H := (Hp.start A.T w).push h2 (.inl (by simp [PA.T])) (by simp)
  have H := H.push h1 (.inl (by simp [PA.T])) (by simp [Ent.own, d1])
  have H := H.push h.ha (.inl (by simp [PA.T])) (by simp [Ent.own, c1, c2])
  have H := H.push h.hs (.inl (by simp [PA.T])) (by simp [Ent.own, b1, b2, b3])
  exact ⟨p1, p2, H.pushRng (b := A.b) (off := 0) (lt_of_get h.hb) (by simp [PA.T, a1, a2, a3, a4]) (row_cell0 h.hb)⟩
/-- And shut again. -/
theorem PoolIn.cls {A : PA} {s : PS} {w w1 : World} (h : PoolIn A s w) {sta loc tas : List Int} {liv : List Bool} {padt padl : List Value} (H : Hp A.T w w1 [.blk A.gs (ints sta) 3, .blk A.ga (ints loc) 3, .blk A.gt (ints tas ++ padt) 3, .blk A.gl (boolsV liv ++ padl) 4]) (hk : tas.length = s.tas.length)
    (wf : PW ⟨s.par, s.own, sta, loc, tas, liv⟩) : PoolIn A ⟨s.par, s.own, sta, loc, tas, liv⟩ w1 := by
  obtain ⟨⟨a1, a2, a3, a4⟩, _, _, _, hS1, hS2⟩ := PA.ne h.nd
  refine ⟨h.nd, ?_, H.at A.gs, H.at A.ga, ⟨padt, H.at A.gt⟩, ⟨padl, H.at A.gl⟩, RowAt.firm.fr w w1 A.T H.fr hS1 h.hp, RowAt.firm.fr w w1 A.T H.fr hS2 h.ho, wf⟩
  have := H.fr.get h.hb (by simp [PA.T, a1, a2, a3, a4])
  simpa [hk] using this
/-- The rows of parents and owners, where there are tasks. -/
theorem PoolIn.rows {A : PA} {s : PS} {w w1 : World} {T : List Nat} {l : List Ent} (h : PoolIn A s w) (H : Hp T w w1 l) (hT : ∀ x ∈ T, x ∈ A.T) (h0 : 0 < s.par.length) : ∃ gp cp go co, A.vp = .slice (some ⟨gp, 0, none⟩) s.par.length cp ∧ A.vo = .slice (some ⟨go, 0, none⟩) s.par.length co ∧ Hp T w w1 (.rng gp 0 (ints s.par) :: .rng go 0 (ints s.own) :: l) := by
  obtain ⟨_, _, _, _, hS1, hS2⟩ := PA.ne h.nd
  obtain ⟨_, ⟨_, e, _⟩ | ⟨gp, cp, pad, e1, e2, _, _, _, e3⟩⟩ := h.hp
  · omega
  obtain ⟨_, ⟨_, e, _⟩ | ⟨go, co, pad2, f1, f2, _, _, _, f3⟩⟩ := h.ho
  · omega
  refine ⟨gp, cp, go, co, e2, f2, ?_⟩
  have H := H.pushRng (b := go) (off := 0) (cs := ints s.own) (lt_of_get f3) (fun hx => hS2 go (by simp [f1]) (hT _ hx)) (row_cell f3)
  exact H.pushRng (b := gp) (off := 0) (cs := ints s.par) (lt_of_get e3) (fun hx => hS1 gp (by simp [e1]) (hT _ hx)) (row_cell e3)
end Go.Proofs.Ythlhjjokodmihaa
