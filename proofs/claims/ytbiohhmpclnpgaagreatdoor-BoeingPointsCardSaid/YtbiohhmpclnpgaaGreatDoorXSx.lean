import Derived.Test.YtbiohhmpclnpgaaGreatDoorXEv
import Derived.Deep.Strs
import Derived.ChangeSlices
import Derived.ChangeOld
namespace Go.Proofs.YtbiohhmpclnpgaaGreatDoor
open Go.RowKit
set_option linter.unusedSimpArgs false
set_option linter.unusedVariables false
def RowAt (e : TypeId) (sz : Nat) (v : Value) (n : Nat) (xs : List Value) (S : List Nat) (w : World) : Prop :=
 xs.length = n * sz ∧ ((S = [] ∧ n = 0 ∧ v = .slice none 0 0) ∨ ∃ g cap pad, S = [g] ∧ v = .slice (some ⟨g, 0, none⟩) n cap ∧ n ≤ cap ∧ cap ≤ maxLen ∧ (xs ++ pad).length = cap * sz ∧ w.heap[g]? = some (.cells (xs ++ pad).toArray e (0, 0)))
theorem RowAt.nil {e : TypeId} {sz : Nat} (w : World) : RowAt e sz (.slice none 0 0) 0 [] [] w := ⟨by simp, .inl ⟨rfl, rfl, rfl⟩⟩
theorem RowAt.firm {e : TypeId} {sz : Nat} {v : Value} {n : Nat} {xs : List Value} {S : List Nat} : Firm S (RowAt e sz v n xs S) := by
 refine ⟨fun w w' R k hn h => ?_, fun w h x hx => ?_, fun w h => ?_⟩
 ·obtain ⟨h0, h | ⟨g, cap, pad, rfl, h1, h2, h3, h4, h5⟩⟩ := h
  ·exact ⟨h0, .inl h⟩
  ·exact ⟨h0, .inr ⟨g, cap, pad, rfl, h1, h2, h3, h4, k.get h5 (hn g (by simp))⟩⟩
 ·obtain ⟨h0, ⟨rfl, _⟩ | ⟨g, cap, pad, rfl, h1, h2, h3, h4, h5⟩⟩ := h
  ·simp at hx
  ·simp only [List.mem_singleton] at hx; subst hx; exact lt_of_get h5
 ·obtain ⟨h0, ⟨rfl, _⟩ | ⟨g, cap, pad, rfl, h1, h2, h3, h4, h5⟩⟩ := h <;> simp
instance {e : TypeId} {sz : Nat} {v : Value} {n : Nat} {xs : List Value} {S : List Nat} : Fm S (RowAt e sz v n xs S) := ⟨RowAt.firm⟩
theorem RowAt.form {e : TypeId} {sz : Nat} {v : Value} {n : Nat} {xs : List Value} {S : List Nat} {w : World} (h : RowAt e sz v n xs S w) : ∃ p c, v = .slice p n c ∧ n ≤ c ∧ c ≤ maxLen ∧ (p = none → c = 0) := by
 obtain ⟨h0, ⟨rfl, rfl, rfl⟩ | ⟨g, cap, pad, rfl, rfl, h2, h3, h4, h5⟩⟩ := h
 ·exact ⟨none, 0, rfl, Nat.le_refl _, Nat.zero_le _, fun _ => rfl⟩
 ·exact ⟨_, cap, rfl, h2, h3, by simp⟩
theorem RowAt.rd {e : TypeId} {sz : Nat} {v : Value} {n : Nat} {xs : List Value} {S : List Nat} {w : World} (h : RowAt e sz v n xs S w) : Rd w v n xs := by
 obtain ⟨h0, ⟨rfl, rfl, rfl⟩ | ⟨g, cap, pad, rfl, rfl, h2, h3, h4, h5⟩⟩ := h
 ·exact .inl ⟨rfl, List.eq_nil_of_length_eq_zero (by simpa using h0), none, 0, rfl⟩
 ·refine .inr ⟨_, cap, rfl, fun j u hj => ?_⟩
  rw [add_mk, cell_of_row w g _ _ _ _ h5, Nat.zero_add]
  simpa using (by rw [List.getElem?_append_left (List.getElem?_eq_some_iff.1 hj).1]; exact hj : (xs ++ pad)[j]? = some u)
theorem RowAt.of_owns {w' : World} {base : Nat} {e : TypeId} {sz n : Nat} {v : Value} {xs : List Value} (h : w'.ownsRow base e sz v n xs) : ∃ S, RowAt e sz v n xs S w' ∧ ∀ x ∈ S, base ≤ x := by
 obtain ⟨hx, ⟨h1, h2⟩ | ⟨g, cap, cur, rfl, hb, hg, h1, h2, h3, h4⟩⟩ := h
 ·subst h2; exact ⟨[], ⟨hx, .inl ⟨rfl, rfl, h1⟩⟩, by simp⟩
 ·have e1 : cur = (xs ++ cur.toList.drop xs.length).toArray := by
   apply Array.ext'
   show cur.toList = xs ++ cur.toList.drop xs.length
   rw [hx]
   exact (congrArg (· ++ cur.toList.drop (n * sz)) h4).symm ▸ (List.take_append_drop _ _).symm
  refine ⟨[g], ⟨hx, .inr ⟨g, cap, cur.toList.drop xs.length, rfl, rfl, h1, h2, ?_, by rw [← e1]; exact hg⟩⟩, by simpa using hb⟩
  have := congrArg Array.size e1
  simp only [List.size_toArray] at this
  omega
theorem RowAt.owns {w : World} {base : Nat} {e : TypeId} {sz n : Nat} {v : Value} {xs : List Value} {S : List Nat} (h : RowAt e sz v n xs S w) (hb : ∀ x ∈ S, base ≤ x) : w.ownsRow base e sz v n xs := by
 obtain ⟨h0, ⟨rfl, rfl, rfl⟩ | ⟨g, cap, pad, rfl, rfl, h2, h3, h4, h5⟩⟩ := h
 ·have : xs = [] := List.eq_nil_of_length_eq_zero (by simpa using h0)
  subst this; exact World.ownsRow_nil _ _ _ _
 ·exact ⟨h0, .inr ⟨g, cap, _, rfl, hb g (by simp), h5, h2, h3, by simpa using h4, by rw [← h0]; simp⟩⟩
section
variable {P : Program} {ops : Array Oper} {Q : Exit → Act → World → Prop} {a : Act} {w w0 : World} {rest : List Oper} {o : Oper} {K : Act → World → Prop} {T : List Nat} {l : List Ent}
theorem Hp.recast (H : Hp T w0 w l) {e e1 : Ent} {l1 : List Ent} (h : Rep e e1 l l1) (ho : e1.own = e.own) (hk : e1.ok T w0 w) : Hp T w0 w l1 :=
 ⟨H.fr, fun x hx => by
  rcases h.of H.nodup x hx with rfl | ⟨h1, _⟩
  ·exact hk
  ·exact H.ok x h1, h.nodup H.nodup (by
   rw [ho]
   have hn := H.nodup
   have : List.Sublist e.own (l.flatMap Ent.own) := by
    have hm := h.mem
    clear h hk hn ho
    induction l with
    | nil => cases hm
    | cons y l ih =>
     rw [List.flatMap_cons]
     cases hm with
     | head => exact List.sublist_append_left _ _
     | tail _ hm => exact (ih ⟨H.fr, fun x hx => H.ok x (List.mem_cons_of_mem _ hx), (List.nodup_append.1 (by simpa using H.nodup)).2.1⟩ hm).trans (List.sublist_append_right _ _)
   exact this.nodup hn) (fun x hx => .inl (ho ▸ hx))⟩
theorem c_apr (H : Hp T w0 w l) {t : TypeId} {s x : Operand} (ho : o.op = .call { callee := .builtin .append, args := #[s, x], argTypes := #[t, t] })
  {v : Value} (hs : a.eval s = v) {q : Option Addr} {m c : Nat} (hx : a.eval x = .slice q m c) {e : TypeId} {z : List Value} {sz by' : Nat} [hsi : Si P t e z sz by']
  (k : Nat) {S : List Nat} {n : Nat} {xs : List Value} {f : Ent → List Ent} [i : Oi k S (RowAt e sz v n xs S) l f]
  {news : List Value} (hr : Rd w (.slice q m c) m news) (hl : news.length = m * sz) (h1 : ∀ u ∈ news, u.oneCell' = true)
  (h48 : (n + m) * by' ≤ 140737488355328) (h63 : n + m ≤ maxLen)
  (h : ∀ v' w' S', Fr S w w' → Hp T w0 w' (f (.obj k S' (RowAt e sz v' (n + m) (xs ++ news) S'))) → K (a.put o.dst v') w') : o.wp P a w K Q := by
 have hob := H.ob k
 obtain ⟨h0, ⟨rfl, rfl, rfl⟩ | ⟨g, cap, pad, rfl, rfl, h2, h3, h4, h5⟩⟩ := hob
 ·have hxs : xs = [] := List.eq_nil_of_length_eq_zero (by simpa using h0)
  subst hxs
  by_cases hm : m = 0
  ·subst hm
   have hn : news = [] := List.eq_nil_of_length_eq_zero (by simpa using hl)
   subst hn
   exact la_appendNone H ho hs hx hsi.h (fun w' k1 H1 => h _ w' [] k1 (by
    have e1 : f (.obj k [] (RowAt e sz (.slice none 0 0) 0 [] [])) = l := Rep.same (i.h _)
    simpa [e1] using H1))
  ·obtain ⟨ad, rfl⟩ : ∃ ad, q = some ad := by
    rcases hr with ⟨h6, _⟩ | ⟨ad, c', h6, _⟩
    ·exact absurd h6 hm
    ·injection h6 with h7 _ _; exact ⟨ad, h7⟩
   refine la_appendNil H ho hs hx hsi.h hsi.z hr hl (by omega) (by simpa using h48) (by unfold maxLen at h63; omega) (fun g w' cap pad hg hc hcm hpl hf H1 => h _ w' [g] hf ?_)
   refine H.upd' (S' := [g]) (i.h _) hf (Q' := RowAt e sz _ (0 + m) ([] ++ news) [g]) ?_ RowAt.firm (fun x hx => .inr (by simp only [List.mem_singleton] at hx; subst hx; exact hg.2))
   refine ⟨by simpa using hl, .inr ⟨g, cap, pad, rfl, by rw [Nat.zero_add], by omega, hcm, by simpa using hpl, ?_⟩⟩
   simpa using H1.get (.head _)
 ·by_cases hm : m = 0
  ·subst hm
   have hn : news = [] := List.eq_nil_of_length_eq_zero (by simpa using hl)
   subst hn
   exact la_appendZero H ho hs h2 hx hsi.h (fun w' k1 H1 => h _ w' [g] (k1.mono (by simp)) (by
    rw [List.append_nil, Nat.add_zero, ← i.e]; exact H1))
  ·obtain ⟨ad, rfl⟩ : ∃ ad, q = some ad := by
    rcases hr with ⟨h6, _⟩ | ⟨ad, c', h6, _⟩
    ·exact absurd h6 hm
    ·injection h6 with h7 _ _; exact ⟨ad, h7⟩
   have H' : Hp T w0 w (f (.blk g (xs ++ pad) e)) := H.recast (i.h _) rfl ⟨h5, H.home k g (by simp)⟩
   refine la_appendOwn H' ho hs hx hsi.h hsi.z (fun g cs1 => i.r _ _) (List.prefix_append _ _) h0 h4 h3 hr hl h1 (by omega) h48 h63 (fun g' w' cap' pad' hg hc hcm hpl hf H1 => h _ w' [g'] hf ?_)
   have hm1 := (i.r (.blk g' (xs ++ news ++ pad') e) (.obj k [] (fun _ => True))).mem
   refine H1.recast (i.r _ _) rfl ⟨⟨by rw [List.length_append, h0, hl, Nat.add_mul], .inr ⟨g', cap', pad', rfl, rfl, hc, hcm, hpl, H1.get hm1⟩⟩, RowAt.firm, fun x hx => ?_⟩
   simp only [List.mem_singleton] at hx
   subst hx
   exact (H1.ok _ hm1).2
theorem Hp.newRow (H : Hp T w0 w l) (k : Nat) {e : TypeId} {sz : Nat} : Hp T w0 w (.obj k [] (RowAt e sz (.slice none 0 0) 0 [] []) :: l) := H.pushObj k (RowAt.nil w) RowAt.firm (by simp) (by simp)
theorem Hp.rowNew (H : Hp T w0 w l) (k : Nat) {w' : World} (hF : Fr [] w w') {e : TypeId} {sz n : Nat} {v : Value} {xs : List Value} (h : w'.ownsRow w.heap.size e sz v n xs) : ∃ S, Hp T w0 w' (.obj k S (RowAt e sz v n xs S) :: l) := by
 obtain ⟨S, h1, h2⟩ := RowAt.of_owns h
 exact ⟨S, H.born k hF h1 RowAt.firm h2⟩
end
end Go.Proofs.YtbiohhmpclnpgaaGreatDoor
namespace Go.Proofs.YtbiohhmpclnpgaaGreatDoor
open Go.RowKit Go.ChangeShapes Go.WideShapes Go.Deep
set_option linter.unusedSimpArgs false
set_option linter.unusedVariables false
def SArg (w : World) (v : Value) (n : Nat) (cs : List Value) : Prop :=
 ∃ p c, v = .slice p n c ∧ (p = none → c = 0) ∧ n ≤ c ∧ c ≤ maxLen ∧ ∀ w', Fr [] w w' → Rd w' v n cs
section
variable {H : Type} {enc : TypeId × Value → H} {P : Program} {w : World} {base : Nat} {held : Bool}
structure Deed4 where
 kind : Int
 i : Int
 dv : Value
 kv : Value
instance : Inhabited Deed4 := ⟨⟨0, 0, .nilFunc, .nilFunc⟩⟩
def Deed4.cells (d : Deed4) : List Value := [.int .i64 d.kind, .int .i64 d.i, d.dv, d.kv]
structure Deed4.Ok (w : World) (d : Deed4) : Prop where
 kind : (Lit.int .i64 d.kind).wf = true
 i : (Lit.int .i64 d.i).wf = true
 data : ∃ s : List UInt8, SArg w d.dv s.length (bytesV s)
 keep : ∃ s : List Bool, SArg w d.kv s.length (s.map Value.bool)
end
end Go.Proofs.YtbiohhmpclnpgaaGreatDoor
namespace Go.Proofs.YtbiohhmpclnpgaaGreatDoor
def zl_34 : List Value := strV [] :: strV [] :: .int .i64 0 :: .int .i64 0 :: .slice none 0 0 :: .slice none 0 0 :: .slice none 0 0 :: .bool false :: [.int .i64 0]
def zl_66 : List Value := .int .i64 0 :: .int .i64 0 :: .int .i64 0 :: .int .i64 0 :: .int .i64 0 :: .int .i64 0 :: .int .i64 0 :: .int .i64 0 :: strV [] :: .int .i64 0 :: .int .i64 0 :: .int .i64 0 :: .int .i64 0 :: .int .i64 0 :: .int .i64 0 :: .int .i64 0 :: .int .i64 0 :: [.int .i64 0, .int .i64 0, .int .i64 0, .int .i64 0]
def zl_92 : List Value := List.replicate 256 (.bool false)
def zl_135 : List Value := List.replicate 24 (.int .u8 0)
def zl_176 : List Value := List.replicate 20 (.int .u64 0)
def zl_177 : List Value := List.replicate 65 (.int .u8 0)
instance : Ti Tryz.prog 2 [.int .i64 0] 1 := ⟨by kernel_rfl⟩
instance : Sc Tryz.prog 2 := ⟨by kernel_rfl, by kernel_rfl⟩
instance : Iy Tryz.prog 2 .i64 := ⟨by kernel_rfl⟩
instance : Ti Tryz.prog 3 [.int .i64 0] 1 := ⟨by kernel_rfl⟩
instance : Sc Tryz.prog 3 := ⟨by kernel_rfl, by kernel_rfl⟩
instance : Iy Tryz.prog 3 .i64 := ⟨by kernel_rfl⟩
instance : Ti Tryz.prog 4 [.bool false] 1 := ⟨by kernel_rfl⟩
instance : Sc Tryz.prog 4 := ⟨by kernel_rfl, by kernel_rfl⟩
instance : Ti Tryz.prog 5 [.int .u8 0] 1 := ⟨by kernel_rfl⟩
instance : Sc Tryz.prog 5 := ⟨by kernel_rfl, by kernel_rfl⟩
instance : Iy Tryz.prog 5 .u8 := ⟨by kernel_rfl⟩
instance : Ti Tryz.prog 6 [.int .u8 0] 1 := ⟨by kernel_rfl⟩
instance : Sc Tryz.prog 6 := ⟨by kernel_rfl, by kernel_rfl⟩
instance : Iy Tryz.prog 6 .u8 := ⟨by kernel_rfl⟩
instance : Ti Tryz.prog 7 [.int .i64 0, .int .i64 0, .bool false, .int .u8 0] 4 := ⟨by kernel_rfl⟩
instance : Ro Tryz.prog 7 4 := ⟨by kernel_rfl⟩
instance : St Tryz.prog 7 [(0, 1), (1, 1), (2, 1), (3, 1)] [.int .i64 0, .int .i64 0, .bool false, .int .u8 0] := ⟨by kernel_rfl⟩
instance : Fo Tryz.prog 7 0 0 := ⟨by kernel_rfl⟩
instance : Fo Tryz.prog 7 1 1 := ⟨by kernel_rfl⟩
instance : Fo Tryz.prog 7 2 2 := ⟨by kernel_rfl⟩
instance : Fo Tryz.prog 7 3 3 := ⟨by kernel_rfl⟩
instance : Ti Tryz.prog 8 [.int .i64 0, .int .i64 0, .bool false, .int .u8 0] 4 := ⟨by kernel_rfl⟩
instance : Ro Tryz.prog 8 4 := ⟨by kernel_rfl⟩
instance : St Tryz.prog 8 [(0, 1), (1, 1), (2, 1), (3, 1)] [.int .i64 0, .int .i64 0, .bool false, .int .u8 0] := ⟨by kernel_rfl⟩
instance : Fo Tryz.prog 8 0 0 := ⟨by kernel_rfl⟩
instance : Fo Tryz.prog 8 1 1 := ⟨by kernel_rfl⟩
instance : Fo Tryz.prog 8 2 2 := ⟨by kernel_rfl⟩
instance : Fo Tryz.prog 8 3 3 := ⟨by kernel_rfl⟩
instance : Ti Tryz.prog 9 [strV []] 1 := ⟨by kernel_rfl⟩
instance : Sc Tryz.prog 9 := ⟨by kernel_rfl, by kernel_rfl⟩
instance : Sy Tryz.prog 9 := ⟨by kernel_rfl⟩
instance : Ti Tryz.prog 10 [strV []] 1 := ⟨by kernel_rfl⟩
instance : Sc Tryz.prog 10 := ⟨by kernel_rfl, by kernel_rfl⟩
instance : Sy Tryz.prog 10 := ⟨by kernel_rfl⟩
instance : Ti Tryz.prog 11 [strV []] 1 := ⟨by kernel_rfl⟩
instance : Sc Tryz.prog 11 := ⟨by kernel_rfl, by kernel_rfl⟩
instance : Sy Tryz.prog 11 := ⟨by kernel_rfl⟩
instance : Ti Tryz.prog 12 [.int .u64 0] 1 := ⟨by kernel_rfl⟩
instance : Sc Tryz.prog 12 := ⟨by kernel_rfl, by kernel_rfl⟩
instance : Iy Tryz.prog 12 .u64 := ⟨by kernel_rfl⟩
instance : Ti Tryz.prog 13 [strV [], .int .u64 0] 2 := ⟨by kernel_rfl⟩
instance : Ro Tryz.prog 13 2 := ⟨by kernel_rfl⟩
instance : St Tryz.prog 13 [(0, 1), (1, 1)] [strV [], .int .u64 0] := ⟨by kernel_rfl⟩
instance : Fo Tryz.prog 13 0 0 := ⟨by kernel_rfl⟩
instance : Fo Tryz.prog 13 1 1 := ⟨by kernel_rfl⟩
instance : Ti Tryz.prog 14 [strV [], .int .u64 0] 2 := ⟨by kernel_rfl⟩
instance : Ro Tryz.prog 14 2 := ⟨by kernel_rfl⟩
instance : St Tryz.prog 14 [(0, 1), (1, 1)] [strV [], .int .u64 0] := ⟨by kernel_rfl⟩
instance : Fo Tryz.prog 14 0 0 := ⟨by kernel_rfl⟩
instance : Fo Tryz.prog 14 1 1 := ⟨by kernel_rfl⟩
instance : Ti Tryz.prog 15 [.pointer none] 1 := ⟨by kernel_rfl⟩
instance : Sc Tryz.prog 15 := ⟨by kernel_rfl, by kernel_rfl⟩
instance : Pp Tryz.prog 15 := ⟨by kernel_rfl⟩
instance : Ti Tryz.prog 16 [.pointer none] 1 := ⟨by kernel_rfl⟩
instance : Sc Tryz.prog 16 := ⟨by kernel_rfl, by kernel_rfl⟩
instance : Pp Tryz.prog 16 := ⟨by kernel_rfl⟩
instance : Ti Tryz.prog 17 [.pointer none] 1 := ⟨by kernel_rfl⟩
instance : Sc Tryz.prog 17 := ⟨by kernel_rfl, by kernel_rfl⟩
instance : Pp Tryz.prog 17 := ⟨by kernel_rfl⟩
instance : Ti Tryz.prog 18 [.pointer none] 1 := ⟨by kernel_rfl⟩
instance : Ro Tryz.prog 18 1 := ⟨by kernel_rfl⟩
instance : St Tryz.prog 18 [(0, 1)] [.pointer none] := ⟨by kernel_rfl⟩
instance : Fo Tryz.prog 18 0 0 := ⟨by kernel_rfl⟩
instance : Ti Tryz.prog 19 [.pointer none] 1 := ⟨by kernel_rfl⟩
instance : Ro Tryz.prog 19 1 := ⟨by kernel_rfl⟩
instance : St Tryz.prog 19 [(0, 1)] [.pointer none] := ⟨by kernel_rfl⟩
instance : Fo Tryz.prog 19 0 0 := ⟨by kernel_rfl⟩
instance : Ti Tryz.prog 21 [.int .i32 0] 1 := ⟨by kernel_rfl⟩
instance : Sc Tryz.prog 21 := ⟨by kernel_rfl, by kernel_rfl⟩
instance : Iy Tryz.prog 21 .i32 := ⟨by kernel_rfl⟩
instance : Ti Tryz.prog 24 [.int .u64 0] 1 := ⟨by kernel_rfl⟩
instance : Sc Tryz.prog 24 := ⟨by kernel_rfl, by kernel_rfl⟩
instance : Iy Tryz.prog 24 .u64 := ⟨by kernel_rfl⟩
instance : Ti Tryz.prog 25 [.int .u64 0] 1 := ⟨by kernel_rfl⟩
instance : Sc Tryz.prog 25 := ⟨by kernel_rfl, by kernel_rfl⟩
instance : Iy Tryz.prog 25 .u64 := ⟨by kernel_rfl⟩
instance : Ti Tryz.prog 26 [.int .i64 0] 1 := ⟨by kernel_rfl⟩
instance : Sc Tryz.prog 26 := ⟨by kernel_rfl, by kernel_rfl⟩
instance : Iy Tryz.prog 26 .i64 := ⟨by kernel_rfl⟩
instance : Ti Tryz.prog 29 [.slice none 0 0] 1 := ⟨by kernel_rfl⟩
instance : Sc Tryz.prog 29 := ⟨by kernel_rfl, by kernel_rfl⟩
instance : Si Tryz.prog 29 3 [.int .i64 0] 1 8 := ⟨by kernel_rfl, rfl⟩
instance : Ti Tryz.prog 30 [.slice none 0 0] 1 := ⟨by kernel_rfl⟩
instance : Sc Tryz.prog 30 := ⟨by kernel_rfl, by kernel_rfl⟩
instance : Si Tryz.prog 30 25 [.int .u64 0] 1 8 := ⟨by kernel_rfl, rfl⟩
instance : Ti Tryz.prog 31 [.int .i64 0, .int .i64 0, .slice none 0 0, .slice none 0 0, .slice none 0 0] 5 := ⟨by kernel_rfl⟩
instance : Ro Tryz.prog 31 5 := ⟨by kernel_rfl⟩
instance : St Tryz.prog 31 [(0, 1), (1, 1), (2, 1), (3, 1), (4, 1)] [.int .i64 0, .int .i64 0, .slice none 0 0, .slice none 0 0, .slice none 0 0] := ⟨by kernel_rfl⟩
instance : Fo Tryz.prog 31 0 0 := ⟨by kernel_rfl⟩
instance : Fo Tryz.prog 31 1 1 := ⟨by kernel_rfl⟩
instance : Fo Tryz.prog 31 2 2 := ⟨by kernel_rfl⟩
instance : Fo Tryz.prog 31 3 3 := ⟨by kernel_rfl⟩
instance : Fo Tryz.prog 31 4 4 := ⟨by kernel_rfl⟩
instance : Ti Tryz.prog 32 [.int .i64 0, .int .i64 0, .slice none 0 0, .slice none 0 0, .slice none 0 0] 5 := ⟨by kernel_rfl⟩
instance : Ro Tryz.prog 32 5 := ⟨by kernel_rfl⟩
instance : St Tryz.prog 32 [(0, 1), (1, 1), (2, 1), (3, 1), (4, 1)] [.int .i64 0, .int .i64 0, .slice none 0 0, .slice none 0 0, .slice none 0 0] := ⟨by kernel_rfl⟩
instance : Fo Tryz.prog 32 0 0 := ⟨by kernel_rfl⟩
instance : Fo Tryz.prog 32 1 1 := ⟨by kernel_rfl⟩
instance : Fo Tryz.prog 32 2 2 := ⟨by kernel_rfl⟩
instance : Fo Tryz.prog 32 3 3 := ⟨by kernel_rfl⟩
instance : Fo Tryz.prog 32 4 4 := ⟨by kernel_rfl⟩
instance : Ti Tryz.prog 33 zl_34 9 := ⟨by kernel_rfl⟩
instance : Ro Tryz.prog 33 9 := ⟨by kernel_rfl⟩
instance : St Tryz.prog 33 [(0, 1), (1, 1), (2, 5), (7, 1), (8, 1)] zl_34 := ⟨by kernel_rfl⟩
instance : Fo Tryz.prog 33 0 0 := ⟨by kernel_rfl⟩
instance : Fo Tryz.prog 33 1 1 := ⟨by kernel_rfl⟩
instance : Fo Tryz.prog 33 2 2 := ⟨by kernel_rfl⟩
instance : Fo Tryz.prog 33 3 7 := ⟨by kernel_rfl⟩
instance : Fo Tryz.prog 33 4 8 := ⟨by kernel_rfl⟩
instance : Ti Tryz.prog 34 zl_34 9 := ⟨by kernel_rfl⟩
instance : Ro Tryz.prog 34 9 := ⟨by kernel_rfl⟩
instance : St Tryz.prog 34 [(0, 1), (1, 1), (2, 5), (7, 1), (8, 1)] zl_34 := ⟨by kernel_rfl⟩
instance : Fo Tryz.prog 34 0 0 := ⟨by kernel_rfl⟩
instance : Fo Tryz.prog 34 1 1 := ⟨by kernel_rfl⟩
instance : Fo Tryz.prog 34 2 2 := ⟨by kernel_rfl⟩
instance : Fo Tryz.prog 34 3 7 := ⟨by kernel_rfl⟩
instance : Fo Tryz.prog 34 4 8 := ⟨by kernel_rfl⟩
instance : Ti Tryz.prog 37 [.slice none 0 0] 1 := ⟨by kernel_rfl⟩
instance : Sc Tryz.prog 37 := ⟨by kernel_rfl, by kernel_rfl⟩
instance : Si Tryz.prog 37 5 [.int .u8 0] 1 1 := ⟨by kernel_rfl, rfl⟩
instance : By Tryz.prog 37 := ⟨⟨5, by kernel_rfl, by kernel_rfl⟩⟩
instance : Ti Tryz.prog 41 [.slice none 0 0] 1 := ⟨by kernel_rfl⟩
instance : Sc Tryz.prog 41 := ⟨by kernel_rfl, by kernel_rfl⟩
instance : Si Tryz.prog 41 9 [strV []] 1 16 := ⟨by kernel_rfl, rfl⟩
instance : Ti Tryz.prog 43 [.int .u64 0] 1 := ⟨by kernel_rfl⟩
instance : Sc Tryz.prog 43 := ⟨by kernel_rfl, by kernel_rfl⟩
instance : Iy Tryz.prog 43 .u64 := ⟨by kernel_rfl⟩
instance : Ti Tryz.prog 44 [.bool false, strV [], .int .i64 0] 3 := ⟨by kernel_rfl⟩
instance : Ro Tryz.prog 44 3 := ⟨by kernel_rfl⟩
instance : St Tryz.prog 44 [(0, 1), (1, 1), (2, 1)] [.bool false, strV [], .int .i64 0] := ⟨by kernel_rfl⟩
instance : Fo Tryz.prog 44 0 0 := ⟨by kernel_rfl⟩
instance : Fo Tryz.prog 44 1 1 := ⟨by kernel_rfl⟩
instance : Fo Tryz.prog 44 2 2 := ⟨by kernel_rfl⟩
instance : Ti Tryz.prog 45 [.bool false, strV [], .int .i64 0] 3 := ⟨by kernel_rfl⟩
instance : Ro Tryz.prog 45 3 := ⟨by kernel_rfl⟩
instance : St Tryz.prog 45 [(0, 1), (1, 1), (2, 1)] [.bool false, strV [], .int .i64 0] := ⟨by kernel_rfl⟩
instance : Fo Tryz.prog 45 0 0 := ⟨by kernel_rfl⟩
instance : Fo Tryz.prog 45 1 1 := ⟨by kernel_rfl⟩
instance : Fo Tryz.prog 45 2 2 := ⟨by kernel_rfl⟩
instance : Ti Tryz.prog 49 [.slice none 0 0] 1 := ⟨by kernel_rfl⟩
instance : Sc Tryz.prog 49 := ⟨by kernel_rfl, by kernel_rfl⟩
instance : Si Tryz.prog 49 104 [.int .u32 0] 1 4 := ⟨by kernel_rfl, rfl⟩
instance : Ti Tryz.prog 50 [.bool false, .slice none 0 0] 2 := ⟨by kernel_rfl⟩
instance : Ro Tryz.prog 50 2 := ⟨by kernel_rfl⟩
instance : St Tryz.prog 50 [(0, 1), (1, 1)] [.bool false, .slice none 0 0] := ⟨by kernel_rfl⟩
instance : Fo Tryz.prog 50 0 0 := ⟨by kernel_rfl⟩
instance : Fo Tryz.prog 50 1 1 := ⟨by kernel_rfl⟩
instance : Ti Tryz.prog 51 [.bool false, .slice none 0 0] 2 := ⟨by kernel_rfl⟩
instance : Ro Tryz.prog 51 2 := ⟨by kernel_rfl⟩
instance : St Tryz.prog 51 [(0, 1), (1, 1)] [.bool false, .slice none 0 0] := ⟨by kernel_rfl⟩
instance : Fo Tryz.prog 51 0 0 := ⟨by kernel_rfl⟩
instance : Fo Tryz.prog 51 1 1 := ⟨by kernel_rfl⟩
instance : Ti Tryz.prog 55 [.bool false, .bool false, .slice none 0 0, .int .i64 0] 4 := ⟨by kernel_rfl⟩
instance : Ro Tryz.prog 55 4 := ⟨by kernel_rfl⟩
instance : St Tryz.prog 55 [(0, 1), (1, 2), (3, 1)] [.bool false, .bool false, .slice none 0 0, .int .i64 0] := ⟨by kernel_rfl⟩
instance : Fo Tryz.prog 55 0 0 := ⟨by kernel_rfl⟩
instance : Fo Tryz.prog 55 1 1 := ⟨by kernel_rfl⟩
instance : Fo Tryz.prog 55 2 3 := ⟨by kernel_rfl⟩
instance : Ti Tryz.prog 56 [.bool false, .bool false, .slice none 0 0, .int .i64 0] 4 := ⟨by kernel_rfl⟩
instance : Ro Tryz.prog 56 4 := ⟨by kernel_rfl⟩
instance : St Tryz.prog 56 [(0, 1), (1, 2), (3, 1)] [.bool false, .bool false, .slice none 0 0, .int .i64 0] := ⟨by kernel_rfl⟩
instance : Fo Tryz.prog 56 0 0 := ⟨by kernel_rfl⟩
instance : Fo Tryz.prog 56 1 1 := ⟨by kernel_rfl⟩
instance : Fo Tryz.prog 56 2 3 := ⟨by kernel_rfl⟩
instance : Ti Tryz.prog 63 [.int .i64 0, .int .i64 0, .int .i64 0, .int .i64 0] 4 := ⟨by kernel_rfl⟩
instance : Ro Tryz.prog 63 4 := ⟨by kernel_rfl⟩
instance : St Tryz.prog 63 [(0, 1), (1, 1), (2, 1), (3, 1)] [.int .i64 0, .int .i64 0, .int .i64 0, .int .i64 0] := ⟨by kernel_rfl⟩
instance : Fo Tryz.prog 63 0 0 := ⟨by kernel_rfl⟩
instance : Fo Tryz.prog 63 1 1 := ⟨by kernel_rfl⟩
instance : Fo Tryz.prog 63 2 2 := ⟨by kernel_rfl⟩
instance : Fo Tryz.prog 63 3 3 := ⟨by kernel_rfl⟩
instance : Ti Tryz.prog 64 [.int .i64 0, .int .i64 0, .int .i64 0, .int .i64 0] 4 := ⟨by kernel_rfl⟩
instance : Ro Tryz.prog 64 4 := ⟨by kernel_rfl⟩
instance : St Tryz.prog 64 [(0, 1), (1, 1), (2, 1), (3, 1)] [.int .i64 0, .int .i64 0, .int .i64 0, .int .i64 0] := ⟨by kernel_rfl⟩
instance : Fo Tryz.prog 64 0 0 := ⟨by kernel_rfl⟩
instance : Fo Tryz.prog 64 1 1 := ⟨by kernel_rfl⟩
instance : Fo Tryz.prog 64 2 2 := ⟨by kernel_rfl⟩
instance : Fo Tryz.prog 64 3 3 := ⟨by kernel_rfl⟩
instance : Ti Tryz.prog 65 zl_66 21 := ⟨by kernel_rfl⟩
instance : Ro Tryz.prog 65 21 := ⟨by kernel_rfl⟩
instance : St Tryz.prog 65 [(0, 1), (1, 1), (2, 1), (3, 1), (4, 1), (5, 1), (6, 1), (7, 1), (8, 1), (9, 4), (13, 4), (17, 4)] zl_66 := ⟨by kernel_rfl⟩
instance : Fo Tryz.prog 65 0 0 := ⟨by kernel_rfl⟩
instance : Fo Tryz.prog 65 1 1 := ⟨by kernel_rfl⟩
instance : Fo Tryz.prog 65 2 2 := ⟨by kernel_rfl⟩
instance : Fo Tryz.prog 65 3 3 := ⟨by kernel_rfl⟩
instance : Fo Tryz.prog 65 4 4 := ⟨by kernel_rfl⟩
instance : Fo Tryz.prog 65 5 5 := ⟨by kernel_rfl⟩
instance : Fo Tryz.prog 65 6 6 := ⟨by kernel_rfl⟩
instance : Fo Tryz.prog 65 7 7 := ⟨by kernel_rfl⟩
instance : Fo Tryz.prog 65 8 8 := ⟨by kernel_rfl⟩
instance : Fo Tryz.prog 65 9 9 := ⟨by kernel_rfl⟩
instance : Fo Tryz.prog 65 10 13 := ⟨by kernel_rfl⟩
instance : Fo Tryz.prog 65 11 17 := ⟨by kernel_rfl⟩
instance : Ti Tryz.prog 66 zl_66 21 := ⟨by kernel_rfl⟩
instance : Ro Tryz.prog 66 21 := ⟨by kernel_rfl⟩
instance : St Tryz.prog 66 [(0, 1), (1, 1), (2, 1), (3, 1), (4, 1), (5, 1), (6, 1), (7, 1), (8, 1), (9, 4), (13, 4), (17, 4)] zl_66 := ⟨by kernel_rfl⟩
instance : Fo Tryz.prog 66 0 0 := ⟨by kernel_rfl⟩
instance : Fo Tryz.prog 66 1 1 := ⟨by kernel_rfl⟩
instance : Fo Tryz.prog 66 2 2 := ⟨by kernel_rfl⟩
instance : Fo Tryz.prog 66 3 3 := ⟨by kernel_rfl⟩
instance : Fo Tryz.prog 66 4 4 := ⟨by kernel_rfl⟩
instance : Fo Tryz.prog 66 5 5 := ⟨by kernel_rfl⟩
instance : Fo Tryz.prog 66 6 6 := ⟨by kernel_rfl⟩
instance : Fo Tryz.prog 66 7 7 := ⟨by kernel_rfl⟩
instance : Fo Tryz.prog 66 8 8 := ⟨by kernel_rfl⟩
instance : Fo Tryz.prog 66 9 9 := ⟨by kernel_rfl⟩
instance : Fo Tryz.prog 66 10 13 := ⟨by kernel_rfl⟩
instance : Fo Tryz.prog 66 11 17 := ⟨by kernel_rfl⟩
instance : Ti Tryz.prog 74 [.slice none 0 0] 1 := ⟨by kernel_rfl⟩
instance : Sc Tryz.prog 74 := ⟨by kernel_rfl, by kernel_rfl⟩
instance : Si Tryz.prog 74 131 [.int .i64 0, .int .i64 0, .int .u64 0] 3 24 := ⟨by kernel_rfl, rfl⟩
instance : Ti Tryz.prog 91 zl_92 256 := ⟨by kernel_rfl⟩
instance : Ar Tryz.prog 91 256 4 [.bool false] 1 := ⟨by kernel_rfl, by kernel_rfl⟩
instance : Ro Tryz.prog 91 256 := ⟨by kernel_rfl⟩
instance : Ti Tryz.prog 92 zl_92 256 := ⟨by kernel_rfl⟩
instance : Ar Tryz.prog 92 256 4 [.bool false] 1 := ⟨by kernel_rfl, by kernel_rfl⟩
instance : Ro Tryz.prog 92 256 := ⟨by kernel_rfl⟩
instance : Ti Tryz.prog 96 [.pointer none] 1 := ⟨by kernel_rfl⟩
instance : Sc Tryz.prog 96 := ⟨by kernel_rfl, by kernel_rfl⟩
instance : Pp Tryz.prog 96 := ⟨by kernel_rfl⟩
instance : Ti Tryz.prog 104 [.int .u32 0] 1 := ⟨by kernel_rfl⟩
instance : Sc Tryz.prog 104 := ⟨by kernel_rfl, by kernel_rfl⟩
instance : Iy Tryz.prog 104 .u32 := ⟨by kernel_rfl⟩
instance : Ti Tryz.prog 111 [.bool false, .bool false, .slice none 0 0, .int .i64 0, .bool false] 5 := ⟨by kernel_rfl⟩
instance : Ro Tryz.prog 111 5 := ⟨by kernel_rfl⟩
instance : St Tryz.prog 111 [(0, 1), (1, 2), (3, 1), (4, 1)] [.bool false, .bool false, .slice none 0 0, .int .i64 0, .bool false] := ⟨by kernel_rfl⟩
instance : Fo Tryz.prog 111 0 0 := ⟨by kernel_rfl⟩
instance : Fo Tryz.prog 111 1 1 := ⟨by kernel_rfl⟩
instance : Fo Tryz.prog 111 2 3 := ⟨by kernel_rfl⟩
instance : Fo Tryz.prog 111 3 4 := ⟨by kernel_rfl⟩
instance : Ti Tryz.prog 112 [.bool false, .bool false, .slice none 0 0, .int .i64 0, .bool false] 5 := ⟨by kernel_rfl⟩
instance : Ro Tryz.prog 112 5 := ⟨by kernel_rfl⟩
instance : St Tryz.prog 112 [(0, 1), (1, 2), (3, 1), (4, 1)] [.bool false, .bool false, .slice none 0 0, .int .i64 0, .bool false] := ⟨by kernel_rfl⟩
instance : Fo Tryz.prog 112 0 0 := ⟨by kernel_rfl⟩
instance : Fo Tryz.prog 112 1 1 := ⟨by kernel_rfl⟩
instance : Fo Tryz.prog 112 2 3 := ⟨by kernel_rfl⟩
instance : Fo Tryz.prog 112 3 4 := ⟨by kernel_rfl⟩
instance : Ti Tryz.prog 117 [.int .i64 0, .int .i64 0] 2 := ⟨by kernel_rfl⟩
instance : Ar Tryz.prog 117 2 3 [.int .i64 0] 1 := ⟨by kernel_rfl, by kernel_rfl⟩
instance : Ro Tryz.prog 117 2 := ⟨by kernel_rfl⟩
instance : Ti Tryz.prog 119 [.bool false, .bool false, .bool false] 3 := ⟨by kernel_rfl⟩
instance : Ar Tryz.prog 119 3 4 [.bool false] 1 := ⟨by kernel_rfl, by kernel_rfl⟩
instance : Ro Tryz.prog 119 3 := ⟨by kernel_rfl⟩
instance : Ti Tryz.prog 129 [.map none] 1 := ⟨by kernel_rfl⟩
instance : Sc Tryz.prog 129 := ⟨by kernel_rfl, by kernel_rfl⟩
instance : Ti Tryz.prog 130 [.int .i64 0, .int .i64 0, .int .u64 0] 3 := ⟨by kernel_rfl⟩
instance : Ro Tryz.prog 130 3 := ⟨by kernel_rfl⟩
instance : St Tryz.prog 130 [(0, 1), (1, 1), (2, 1)] [.int .i64 0, .int .i64 0, .int .u64 0] := ⟨by kernel_rfl⟩
instance : Fo Tryz.prog 130 0 0 := ⟨by kernel_rfl⟩
instance : Fo Tryz.prog 130 1 1 := ⟨by kernel_rfl⟩
instance : Fo Tryz.prog 130 2 2 := ⟨by kernel_rfl⟩
instance : Ti Tryz.prog 131 [.int .i64 0, .int .i64 0, .int .u64 0] 3 := ⟨by kernel_rfl⟩
instance : Ro Tryz.prog 131 3 := ⟨by kernel_rfl⟩
instance : St Tryz.prog 131 [(0, 1), (1, 1), (2, 1)] [.int .i64 0, .int .i64 0, .int .u64 0] := ⟨by kernel_rfl⟩
instance : Fo Tryz.prog 131 0 0 := ⟨by kernel_rfl⟩
instance : Fo Tryz.prog 131 1 1 := ⟨by kernel_rfl⟩
instance : Fo Tryz.prog 131 2 2 := ⟨by kernel_rfl⟩
instance : Ti Tryz.prog 135 zl_135 24 := ⟨by kernel_rfl⟩
instance : Ar Tryz.prog 135 24 5 [.int .u8 0] 1 := ⟨by kernel_rfl, by kernel_rfl⟩
instance : Ro Tryz.prog 135 24 := ⟨by kernel_rfl⟩
instance : Ti Tryz.prog 157 [.slice none 0 0] 1 := ⟨by kernel_rfl⟩
instance : Sc Tryz.prog 157 := ⟨by kernel_rfl, by kernel_rfl⟩
instance : Si Tryz.prog 157 117 [.int .i64 0, .int .i64 0] 2 16 := ⟨by kernel_rfl, rfl⟩
instance : Ti Tryz.prog 176 zl_176 20 := ⟨by kernel_rfl⟩
instance : Ar Tryz.prog 176 20 24 [.int .u64 0] 1 := ⟨by kernel_rfl, by kernel_rfl⟩
instance : Ro Tryz.prog 176 20 := ⟨by kernel_rfl⟩
instance : Ti Tryz.prog 177 zl_177 65 := ⟨by kernel_rfl⟩
instance : Ar Tryz.prog 177 65 5 [.int .u8 0] 1 := ⟨by kernel_rfl, by kernel_rfl⟩
instance : Ro Tryz.prog 177 65 := ⟨by kernel_rfl⟩
instance : Ti Tryz.prog 181 [.int .i64 0] 1 := ⟨by kernel_rfl⟩
instance : Sc Tryz.prog 181 := ⟨by kernel_rfl, by kernel_rfl⟩
instance : Iy Tryz.prog 181 .i64 := ⟨by kernel_rfl⟩
instance : Ti Tryz.prog 184 [.pointer none] 1 := ⟨by kernel_rfl⟩
instance : Sc Tryz.prog 184 := ⟨by kernel_rfl, by kernel_rfl⟩
instance : Pp Tryz.prog 184 := ⟨by kernel_rfl⟩
instance : Ti Tryz.prog 205 [.slice none 0 0] 1 := ⟨by kernel_rfl⟩
instance : Sc Tryz.prog 205 := ⟨by kernel_rfl, by kernel_rfl⟩
instance : Si Tryz.prog 205 56 [.bool false, .bool false, .slice none 0 0, .int .i64 0] 4 48 := ⟨by kernel_rfl, rfl⟩
instance : Ti Tryz.prog 213 [.int .u8 0, .int .u8 0] 2 := ⟨by kernel_rfl⟩
instance : Ro Tryz.prog 213 2 := ⟨by kernel_rfl⟩
instance : St Tryz.prog 213 [(0, 1), (1, 1)] [.int .u8 0, .int .u8 0] := ⟨by kernel_rfl⟩
instance : Fo Tryz.prog 213 0 0 := ⟨by kernel_rfl⟩
instance : Fo Tryz.prog 213 1 1 := ⟨by kernel_rfl⟩
end Go.Proofs.YtbiohhmpclnpgaaGreatDoor
namespace Go.Proofs.YtbiohhmpclnpgaaGreatDoor
open Go.RowKit
set_option linter.unusedSimpArgs false
set_option linter.unusedVariables false
theorem length_flat {α β : Type} (g : α → List β) (n : Nat) : ∀ (l : List α), (∀ x ∈ l, (g x).length = n) → (l.flatMap g).length = l.length * n
 | [], _ => by simp
 | x :: l, h => by
  rw [List.flatMap_cons, List.length_append, h x List.mem_cons_self, length_flat g n l (fun y hy => h y (List.mem_cons_of_mem _ hy)), List.length_cons, Nat.add_mul]; omega
theorem lt_of_cell {w : World} {a : Addr} {v : Value} (h : w.cell? a = some v) : a.block < w.heap.size := by
 unfold World.cell? at h
 by_cases hb : a.block < w.heap.size
 ·exact hb
 ·rw [Array.getElem?_eq_none (by omega)] at h
  simp at h
section
variable {P : Program} {ops : Array Oper} {Q : Exit → Act → World → Prop} {a : Act} {w w0 : World} {rest : List Oper} {o : Oper} {K : Act → World → Prop} {T : List Nat} {l : List Ent} {L : List Value} {ds : List Deferred}
theorem Parts.sized {s : Nat} {i : Nat} {ps : List (Nat × Operand)} {css : List (List Value)} (h : Parts L i ps css) (hs : ∀ c ∈ css, c.length = s) : ∃ vs : List Value, (ps.map fun (i, x) => (i, (Act.mk L.toArray ds).eval x)) = partsFrom i vs ∧ (vs.flatMap fun v => v.cells.toList) = css.flatten ∧ vs.length = css.length ∧ ∀ v ∈ vs, v.cells.size = s := by
 induction h with
 | nil i => exact ⟨[], rfl, rfl, rfl, by simp⟩
 | @tmp i n v c ps cs h hc k ih =>
  obtain ⟨vs, h1, h2, h3, h4⟩ := ih (fun c hc => hs c (List.mem_cons_of_mem _ hc))
  have e : (Act.mk L.toArray ds).eval (.tmp n) = v := by simp [Act.eval, h]
  refine ⟨v :: vs, by simp [partsFrom, h1, e], by simp [h2, hc], by simp [h3], fun u hu => ?_⟩
  rcases List.mem_cons.1 hu with rfl | hu
  ·rw [hc]; simpa using hs c List.mem_cons_self
  ·exact h4 u hu
 | @con i v c ps cs hc k ih =>
  obtain ⟨vs, h1, h2, h3, h4⟩ := ih (fun c hc => hs c (List.mem_cons_of_mem _ hc))
  have e : (Act.mk L.toArray ds).eval (.const v) = v := rfl
  refine ⟨v :: vs, by simp [partsFrom, h1, e], by simp [h2, hc], by simp [h3], fun u hu => ?_⟩
  rcases List.mem_cons.1 hu with rfl | hu
  ·rw [hc]; simpa using hs c List.mem_cons_self
  ·exact h4 u hu
theorem fits_row (s : Nat) : ∀ (vs : List Value) (i : Nat), (∀ v ∈ vs, v.cells.size = s) → fits (fun i => some (i * s, s)) i (i * s) vs = true
 | [], _, _ => rfl
 | v :: vs, i, h => by
  have hv := h v List.mem_cons_self
  simp only [fits, hv, beq_self_eq_true, Bool.true_and]
  rw [show i * s + s = (i + 1) * s by rw [Nat.add_mul]; omega]
  exact fits_row s vs (i + 1) (fun u hu => h u (List.mem_cons_of_mem _ hu))
theorem c_sN (H : Hp T w0 w l) {t : TypeId} {n : Nat} {ps : List (Nat × Operand)} (ho : o.op = .buildSlice t n ps.toArray) {css : List (List Value)} (hp : Parts L 0 ps css) {e : TypeId} {z : List Value} {s by' : Nat} [hsi : Si P t e z s by'] (hn : css.length = n) (hs : ∀ c ∈ css, c.length = s) (h24 : n * s ≤ 16777216) (h0 : s ≠ 0)
  (h : ∀ g w', w0.heap.size ≤ g ∧ w.heap.size ≤ g → Fr [] w w' → Hp T w0 w' (.blk g css.flatten e :: l) → K (Act.put (Act.mk L.toArray ds) o.dst (.slice (some ⟨g, 0, none⟩) n n)) w') : o.wp P (Act.mk L.toArray ds) w K Q := by
 obtain ⟨hu, i, zv, h2, h3, h4, h5, h6⟩ := si_spec hsi.h
 subst h5 h6
 obtain ⟨vs, hv1, hv2, hv3, hv4⟩ := hp.sized (ds := ds) hs
 have e1 : (Instr.buildSlice t n ((ps.toArray.map fun (i, x) => (i, (Act.mk L.toArray ds).eval x)))).run P w = .ok (.slice (some ⟨w.heap.size, 0, none⟩) n n) (w.alloc (.cells css.flatten.toArray e)) := by
  have hl : (vs.flatMap fun v => v.cells.toList).length = n * i.size := by
   rw [length_flat (fun v : Value => v.cells.toList) i.size vs (fun v hv => by rw [Array.length_toList]; exact hv4 v hv), hv3, hn]
  have hf := fill_all (fun k => some (k * i.size, i.size)) vs 0 [] ((Array.range (n * i.size)).map (zv.cells[· % zv.cells.size]!)).toList (by simpa using fits_row i.size vs 0 hv4) (by rw [hl]; simp)
  rw [hl, List.drop_eq_nil_of_le (by simp), List.append_nil, List.nil_append, List.nil_append, hv2] at hf
  have e2 : (ps.toArray.map fun (i, x) => (i, (Act.mk L.toArray ds).eval x)).toList = partsFrom 0 vs := by simpa using hv1
  simp only [Instr.buildSlice, Sem.run_bind, run_underlying hu, Result.andThen_ok, sizeOf, typeInfo, run_program, h2, Sem.run_pure, zeroValue]
  rw [if_neg (by omega)]
  by_cases hz0 : n * i.size = 0
  ·have hn0 : n = 0 := by rcases Nat.mul_eq_zero.1 hz0 with h | h; exact h; exact absurd h h0
   subst hn0
   have hc0 : css = [] := List.eq_nil_of_length_eq_zero hn
   subst hc0
   have hp0 : ps = [] := by cases hp; rfl
   subst hp0
   simp [Instr.fill, newRow, run_newObj]
   congr 1; congr 1; apply Array.ext'; simp [Array.range]
  ·rw [if_neg hz0]
   simp only [Sem.run_bind, Sem.run_pure, Result.andThen_ok, run_program, h2, h3, e2]
   rw [Array.toArray_toList] at hf
   simp only [hf, newRow, Sem.run_bind, run_newObj, Result.andThen_ok, Sem.run_pure]
   rfl
 refine wp_of_run ?_ (h _ _ ⟨H.fr.size, Nat.le_refl _⟩ (Fr.alloc [] w _) (H.alloc css.flatten e))
 unfold execOp; simp only [ho, Sem.run_bind, e1, Result.andThen_ok, Sem.run_pure]
end
theorem Rd.addr {w : World} {v : Value} {n : Nat} {cs : List Value} (h : Rd w v n cs) (hc : cs ≠ []) : ∃ b off c, v = .slice (some ⟨b, off, none⟩) n c ∧ b < w.heap.size ∧ ∀ (j : Nat) u, cs[j]? = some u → w.cell? ⟨b, off + j, none⟩ = some u := by
 rcases h with ⟨_, h4, _⟩ | ⟨ad, c', rfl, h5⟩
 ·exact absurd h4 hc
 ·obtain ⟨x, xs, rfl⟩ : ∃ x xs, cs = x :: xs := by cases cs with | nil => exact absurd rfl hc | cons x xs => exact ⟨x, xs, rfl⟩
  obtain ⟨b, off, spot⟩ := ad
  have h9 := h5 0 x rfl
  have hs : spot = none := by simpa [Addr.add] using World.cell?_spot h9
  subst hs
  refine ⟨b, off, c', rfl, by simpa [Addr.add] using lt_of_cell h9, fun j u hj => ?_⟩
  have := h5 j u hj
  rwa [add_mk] at this
theorem Rd.form {w : World} {v : Value} {n : Nat} {cs : List Value} (h : Rd w v n cs) : ∃ p c, v = .slice p n c := by
 rcases h with ⟨rfl, _, p, c, rfl⟩ | ⟨ad, c, rfl, _⟩
 ·exact ⟨p, c, rfl⟩
 ·exact ⟨_, c, rfl⟩
section
variable {P : Program} {Q : Exit → Act → World → Prop} {a : Act} {w : World} {o : Oper} {lo : List Oper}
theorem ev_not {t : TypeId} {x : Operand} (ho : o.op = .unOp .not t x) {b : Bool} (hx : a.eval x = .bool b) : (execOp a.eval o).run P w = .ok (.value (.bool (!b))) w := by
 unfold execOp; simp [ho, hx, Op.unary]
theorem c_seq {t t' : TypeId} {x : Operand} (ho : o.op = .binOp .eql t x (.const (.slice none 0 0)) t') {p : Option Addr} {n c : Nat} (hx : a.eval x = .slice p n c) {e : TypeId} {z : List Value} {s by' : Nat} [h : Si P t e z s by'] : (execOp a.eval o).run P w = .ok (.value (.bool p.isNone)) w := by
 obtain ⟨hu, _⟩ := si_spec h.h
 have e1 : (eqGuard .eql t x (.const (.slice none 0 0)) (.slice p n c) (.slice none 0 0)).run P w = .ok () w := by unfold eqGuard; simp
 have hn : a.eval (.const (.slice none 0 0)) = .slice none 0 0 := rfl
 unfold execOp
 simp only [ho, hx, hn, Sem.run_bind, e1, Result.andThen_ok]
 have e2 : (Op.equal t (.slice p n c) (.slice none 0 0)).run P w = .ok p.isNone w := by
  unfold Op.equal Op.maxDepth
  rw [Op.equalIn]
  simp only [Sem.run_bind, run_underlying hu, Result.andThen_ok]
  cases p <;> rfl
 have e3 : (binOp .eql t (.slice p n c) (.slice none 0 0)).run P w = .ok (.bool p.isNone) w := by
  show ((do pure (Value.bool (← Op.equal t (.slice p n c) (.slice none 0 0))) : Sem Value)).run P w = _
  simp only [Sem.run_bind, e2, Result.andThen_ok, Sem.run_pure]
 simp only [e3, Result.andThen_ok, Sem.run_pure]
theorem pl_ldno {S : World → Prop} {f i : Nat} {k : Plan} (hi : lo[i]? = some o) (hw : Region.wanted o (yielded lo.toArray a.tmps) = false) (hS : i ≠ f → S w) (h : k.wp P lo.toArray Q S f (a.put o.dst undef) w) : Plan.wp P lo.toArray Q S f (.ld i k) a w := by
 unfold Plan.wp wpOp
 have hi' : lo.toArray[i]? = some o := by simpa using hi
 simp only [hi', hw]
 exact ⟨hS, h⟩
end
theorem ev_extract {P : Program} {a : Act} {w : World} {o : Oper} {x : Operand} {i : Nat} (ho : o.op = .extract x i) {vs : Array Value} (hx : a.eval x = .tuple vs) {v : Value} (hv : vs.toList[i]? = some v) : (execOp a.eval o).run P w = .ok (.value v) w := by
 have hv' : vs[i]? = some v := by rw [← Array.getElem?_toList]; exact hv
 unfold execOp; simp [ho, hx, Instr.extract, hv']
theorem c_aprS {P : Program} {Q : Exit → Act → World → Prop} {a : Act} {w w0 : World} {o : Oper} {K : Act → World → Prop} {T : List Nat} {l : List Ent} (H : Hp T w0 w l) {t : TypeId} {s x : Operand} (ho : o.op = .call { callee := .builtin .append, args := #[s, x], argTypes := #[t, t] })
  {v : Value} (hs : a.eval s = v) {q : Option Addr} {m c : Nat} (hx : a.eval x = .slice q m c) {e : TypeId} {z : List Value} {sz by' : Nat} [hsi : Si P t e z sz by']
  (k : Nat) {S : List Nat} {n : Nat} {xs : List Value} {f : Ent → List Ent} [i : Oi k S (RowAt e sz v n xs S) l f]
  {news : List Value} (hr : Rd w (.slice q m c) m news) (hl : news.length = m * sz) (h1 : ∀ u ∈ news, u.oneCell' = true)
  (h48 : (n + m) * by' ≤ 140737488355328) (h63 : n + m ≤ maxLen)
  (h : ∀ p' c' w' S', Fr S w w' → Hp T w0 w' (f (.obj k S' (RowAt e sz (.slice p' (n + m) c') (n + m) (xs ++ news) S'))) → K (a.put o.dst (.slice p' (n + m) c')) w') : o.wp P a w K Q :=
 c_apr H ho hs hx k hr hl h1 h48 h63 (fun v' w' S' hf H1 => by
  have hm := (i.r (.obj k S' (RowAt e sz v' (n + m) (xs ++ news) S')) (.obj k S' (RowAt e sz v' (n + m) (xs ++ news) S'))).mem
  obtain ⟨p', c', rfl, _⟩ := RowAt.form (H1.ok _ hm).1
  exact h p' c' w' S' hf H1)
section
variable {T : List Nat} {w0 w w' : World} {l : List Ent}
theorem Hp.perm {l' : List Ent} (H : Hp T w0 w l) (h : List.Perm l l') : Hp T w0 w l' :=
 ⟨H.fr, fun e he => H.ok e (h.mem_iff.2 he), (h.flatMap_right _).nodup H.nodup⟩
class Dl (k : Nat) (S : outParam (List Nat)) (Q : outParam (World → Prop)) (l : List Ent) (l' : outParam (List Ent)) : Prop where
 h : List.Perm l (.obj k S Q :: l')
instance Dl.here {k : Nat} {S : List Nat} {Q : World → Prop} {l : List Ent} : Dl k S Q (.obj k S Q :: l) l := ⟨List.Perm.refl _⟩
instance (priority := low) Dl.there {k : Nat} {S : List Nat} {Q : World → Prop} {l l' : List Ent} {e : Ent} [h : Dl k S Q l l'] : Dl k S Q (e :: l) (e :: l') := ⟨(h.h.cons e).trans (List.Perm.swap _ _ _)⟩
theorem Hp.pull (H : Hp T w0 w l) (k : Nat) {S : List Nat} {Q : World → Prop} {l' : List Ent} [d : Dl k S Q l l'] : Hp T w0 w (.obj k S Q :: l') := H.perm d.h
theorem Hp.front {lo : List Ent} (H : Hp T w0 w (lo ++ l)) (hF : Fr (lo.flatMap Ent.own) w w') (ln : List Ent) (hok : ∀ e ∈ ln, e.ok T w0 w') (hnd : (ln.flatMap Ent.own).Nodup) (hfr : ∀ x ∈ ln.flatMap Ent.own, x ∈ lo.flatMap Ent.own ∨ w.heap.size ≤ x) : Hp T w0 w' (ln ++ l) := by
 have hn := H.nodup
 rw [List.flatMap_append] at hn
 have hn' := List.nodup_append.1 hn
 refine ⟨H.fr.andThen hF (fun x hx => ?_), fun e he => ?_, ?_⟩
 ·obtain ⟨e, he, hx⟩ := List.mem_flatMap.1 hx
  exact Ent.home (H.ok e (List.mem_append_left _ he)) x hx
 ·rcases List.mem_append.1 he with he | he
  ·exact hok e he
  ·exact Ent.stay (H.ok e (List.mem_append_right _ he)) hF (fun x hx hm => hn'.2.2 x hm x (List.mem_flatMap.2 ⟨e, he, hx⟩) rfl)
 ·rw [List.flatMap_append]
  refine List.nodup_append.2 ⟨hnd, hn'.2.1, fun x hx y hy e => ?_⟩
  subst e
  rcases hfr x hx with h | h
  ·exact hn'.2.2 x h x hy rfl
  ·have := H.ownLt x (by rw [List.flatMap_append]; exact List.mem_append_right _ hy)
   omega
end
section
variable {T : List Nat} {w0 w : World} {l : List Ent}
theorem Hp.rowo (H : Hp T w0 w l) (k : Nat) {S S2 : List Nat} {e : TypeId} {sz n : Nat} {v : Value} {xs : List Value} {f : Ent → List Ent} [i : Oi k S (RowAt e sz v n xs S2) l f] : RowAt e sz v n xs S2 w := H.ob k
end
theorem SArg.fr {w w' : World} {v : Value} {n : Nat} {cs : List Value} (h : SArg w v n cs) (k : Fr [] w w') : SArg w' v n cs := by
 obtain ⟨p, c, rfl, h1, h2, h3, h4⟩ := h
 exact ⟨p, c, rfl, h1, h2, h3, fun w2 k2 => h4 w2 (k.trans k2)⟩
end Go.Proofs.YtbiohhmpclnpgaaGreatDoor
namespace Go.Proofs.YtbiohhmpclnpgaaGreatDoor
open Go.RowKit
set_option linter.unusedSimpArgs false
set_option linter.unusedVariables false
section
variable {P : Program} {w : World} {a : Act} {o : Oper} {K : Act → World → Prop} {Q : Exit → Act → World → Prop}
class Bo (P : Program) (t : TypeId) : Prop where
 h : P.underlying t = some .bool
instance : Bo Tryz.prog 4 := ⟨Tryz.underlying4⟩
theorem c_bEq {t t' : TypeId} {x y : Operand} (ho : o.op = .binOp .eql t x y t') {p q r : Bool} (hx : a.eval x = .bool p) (hy : a.eval y = .bool q) [u : Bo P t] (hr : (p == q) = r := by rfl) : (execOp a.eval o).run P w = .ok (.value (.bool r)) w := by
 subst hr
 have e1 : (eqGuard .eql t x y (.bool p) (.bool q)).run P w = .ok () w := by unfold eqGuard; simp
 unfold execOp
 simp only [ho, hx, hy, Sem.run_bind, e1, Result.andThen_ok]
 have e2 : (Op.equal t (.bool p) (.bool q)).run P w = .ok (p == q) w := by
  unfold Op.equal Op.maxDepth
  rw [Op.equalIn]
  simp only [Sem.run_bind, run_underlying u.h, Result.andThen_ok]
  cases p <;> cases q <;> rfl
 have e3 : (binOp .eql t (.bool p) (.bool q)).run P w = .ok (.bool (p == q)) w := by
  show ((do pure (Value.bool (← Op.equal t (.bool p) (.bool q))) : Sem Value)).run P w = _
  simp only [Sem.run_bind, e2, Result.andThen_ok, Sem.run_pure]
 simp only [e3, Result.andThen_ok, Sem.run_pure]
theorem c_bNe {t t' : TypeId} {x y : Operand} (ho : o.op = .binOp .neq t x y t') {p q r : Bool} (hx : a.eval x = .bool p) (hy : a.eval y = .bool q) [u : Bo P t] (hr : (!(p == q)) = r := by rfl) : (execOp a.eval o).run P w = .ok (.value (.bool r)) w := by
 subst hr
 have e1 : (eqGuard .neq t x y (.bool p) (.bool q)).run P w = .ok () w := by unfold eqGuard; simp
 unfold execOp
 simp only [ho, hx, hy, Sem.run_bind, e1, Result.andThen_ok]
 have e2 : (Op.equal t (.bool p) (.bool q)).run P w = .ok (p == q) w := by
  unfold Op.equal Op.maxDepth
  rw [Op.equalIn]
  simp only [Sem.run_bind, run_underlying u.h, Result.andThen_ok]
  cases p <;> cases q <;> rfl
 have e3 : (binOp .neq t (.bool p) (.bool q)).run P w = .ok (.bool (!(p == q))) w := by
  show ((do pure (Value.bool (!(← Op.equal t (.bool p) (.bool q)))) : Sem Value)).run P w = _
  simp only [Sem.run_bind, e2, Result.andThen_ok, Sem.run_pure]
 simp only [e3, Result.andThen_ok, Sem.run_pure]
theorem c_sshA {t : TypeId} {x y : Operand} (ho : o.op = .slice t x none (some y) none) {q : Option Addr} {n c : Nat} (hx : a.eval x = .slice q n c) {e : TypeId} {z : List Value} {s by' : Nat} [h : Si P t e z s by'] {k : IntKind} {i : Int} (hy : a.eval y = .int k i) (h0 : 0 ≤ i := by omega) (h1 : i ≤ c := by omega) : (execOp a.eval o).run P w = .ok (.value (.slice q i.toNat c)) w := by
 obtain ⟨hu, ti, zv, h2, h3, h4, rfl, rfl⟩ := si_spec h.h
 unfold execOp
 have key : (Instr.sliceBounds true n c none (some (a.eval y)) none).run P w = .ok (0, i.toNat, c) w := by simp [Instr.sliceBounds, hy, run_bound h0 h1]
 simp only [ho, hx, Instr.sliceAt, Instr.slice, Sem.run_bind, run_underlying hu, Result.andThen_ok, Option.map_none, Option.map_some, key, sizeOf, typeInfo, run_program, h2, Sem.run_pure]
 have e1 : (if c = 0 then q else q.map (·.add (0 * z.length))) = q := by
  split
  ·rfl
  ·cases q <;> simp [Addr.add]
 simp
 cases q <;> simp [Addr.add]
end
section
variable {P : Program} {ops : Array Oper} {Q : Exit → Act → World → Prop} {w w0 : World} {rest : List Oper} {o : Oper} {T : List Nat} {l : List Ent} {L : List Value} {ds : List Deferred} {a : Act}
theorem g_ld {t : TypeId} {x : Operand} {r : Result Next} (_ho : o.op = .load t x) (h : (execOp a.eval o).run P w = r) : (execOp a.eval o).run P w = r := h
theorem g_cm {op : BinOp} {t t' : TypeId} {x y : Operand} {r : Result Next} (_ho : o.op = .binOp op t x y t') (_hc : isCmp op = true) (h : (execOp a.eval o).run P w = r) : (execOp a.eval o).run P w = r := h
theorem g_sl {t : TypeId} {x : Operand} {l' h' m' : Option Operand} {r : Result Next} (_ho : o.op = .slice t x l' h' m') (h : (execOp a.eval o).run P w = r) : (execOp a.eval o).run P w = r := h
theorem g_cv {s d : TypeId} {x : Operand} {r : Result Next} (_ho : o.op = .convert s d x) (h : (execOp a.eval o).run P w = r) : (execOp a.eval o).run P w = r := h
def putL (L : List Value) : Option Nat → Value → List Value
 | some n, v => L.set n v
 | none, _ => L
theorem putL_s (L : List Value) (n : Nat) (v : Value) : putL L (some n) v = L.set n v := rfl
theorem putL_n (L : List Value) (v : Value) : putL L none v = L := rfl
theorem put_eq (d : Option Nat) (v : Value) : Act.put ⟨L.toArray, ds⟩ d v = ⟨(putL L d v).toArray, ds⟩ := by cases d <;> simp [Act.put, putL]
theorem x_e {v : Value} {L' : List Value} (he : (execOp (Act.mk L.toArray ds).eval o).run P w = .ok (.value v) w) (h : wpList P ops Q rest ⟨L'.toArray, ds⟩ w)
  (hw : Region.wanted o (yielded ops L.toArray) = true := by rfl) (hs : putL L o.dst v = L' := by ((try simp only [nrm, putL_s, putL_n, ↓reduceIte, Nat.reduceAdd]); (try exact rfl))) : wpList P ops Q (o :: rest) ⟨L.toArray, ds⟩ w := by
 subst hs; exact wl_ev hw he (by rw [put_eq]; exact h)
theorem x_q (H : Hp T w0 w l) {v : Value} {L' : List Value} (h : wpList P ops Q rest ⟨L'.toArray, ds⟩ w)
  (hw : Region.wanted o (yielded ops L.toArray) = true := by rfl)
  (he : Hp T w0 w l → (execOp (Act.mk L.toArray ds).eval o).run P w = .ok (.value v) w := by
   intro H
   first
   | (refine g_ld rfl ?_; first | exact c_ld H rfl rfl | exact c_ld0 H rfl rfl | exact c_ldz H rfl rfl | exact c_ldr H rfl rfl | exact c_ln H rfl rfl | exact c_lnp H rfl rfl | exact c_lnz H rfl rfl | exact c_lnr H rfl rfl)
   | (refine g_cm rfl rfl ?_; first | exact ev_cmpT rfl rfl rfl rfl | exact ev_cmpF rfl rfl rfl rfl | exact c_bEq rfl rfl rfl | exact c_bNe rfl rfl rfl | exact c_peq rfl rfl | exact c_pne rfl rfl | exact c_seq rfl rfl | exact ev_strEq rfl rfl rfl | exact ev_strNe rfl rfl rfl)
   | exact c_ix rfl rfl rfl
   | (refine g_sl rfl ?_; first | exact c_ss rfl rfl | exact c_ssh rfl rfl rfl | exact c_sshA rfl rfl rfl | exact c_ssl rfl rfl rfl | exact c_sslh rfl rfl rfl rfl | exact c_sa rfl rfl | exact c_sah rfl rfl rfl)
   | (refine g_cv rfl ?_; first | exact c_cv rfl rfl | exact c_cv64 rfl rfl | exact c_cv32 rfl rfl | exact c_cv8 rfl rfl)
   | exact c_sta rfl
   | exact c_stp rfl
   | exact ev_quo rfl rfl rfl
   | exact ev_rem rfl rfl rfl)
  (hs : putL L o.dst v = L' := by ((try simp only [nrm, putL_s, putL_n, ↓reduceIte, Nat.reduceAdd]); (try exact rfl))) : wpList P ops Q (o :: rest) ⟨L.toArray, ds⟩ w := x_e (he H) h hw hs
theorem x_cm {op : BinOp} {t t' : TypeId} {x y : Operand} {k : IntKind} {m n : Int} {p q : Prop} {L1 L2 : List Value}
  (h1 : p → wpList P ops Q rest ⟨L1.toArray, ds⟩ w) (h0 : q → wpList P ops Q rest ⟨L2.toArray, ds⟩ w)
  (ho : o.op = .binOp op t x y t' := by rfl) (hc : isCmp op = true := by rfl) (hw : Region.wanted o (yielded ops L.toArray) = true := by rfl) (hx : (Act.mk L.toArray ds).eval x = .int k m := by rfl) (hy : (Act.mk L.toArray ds).eval y = .int k n := by rfl)
  (hp : cmpP op m n → p := by intro h; simp only [cmpP] at h; exact h) (hq : ¬ cmpP op m n → q := by intro h; simp only [cmpP] at h; exact h)
  (hs1 : putL L o.dst (.bool true) = L1 := by ((try simp only [nrm, putL_s, putL_n, ↓reduceIte, Nat.reduceAdd]); (try exact rfl))) (hs2 : putL L o.dst (.bool false) = L2 := by ((try simp only [nrm, putL_s, putL_n, ↓reduceIte, Nat.reduceAdd]); (try exact rfl))) : wpList P ops Q (o :: rest) ⟨L.toArray, ds⟩ w := by
 subst hs1 hs2
 exact wl_cmp hw ho hx hy hc (fun h => by rw [put_eq]; exact h1 (hp h)) (fun h => by rw [put_eq]; exact h0 (hq h))
theorem x_g {zs : List Value} {t : TypeId} {v : Nat → Value} {L' : Nat → List Value}
  (h : ∀ g w', w0.heap.size ≤ g ∧ w.heap.size ≤ g → Fr [] w w' → Hp T w0 w' (.blk g zs t :: l) → wpList P ops Q rest ⟨(L' g).toArray, ds⟩ w')
  (hw : Region.wanted o (yielded ops L.toArray) = true := by rfl)
  (he : Hp T w0 w l → ∀ K : Act → World → Prop, (∀ g w', w0.heap.size ≤ g ∧ w.heap.size ≤ g → Fr [] w w' → Hp T w0 w' (.blk g zs t :: l) → K (Act.put ⟨L.toArray, ds⟩ o.dst (v g)) w') → o.wp P ⟨L.toArray, ds⟩ w K Q := by
   intro H K hK
   first | exact c_al H rfl hK | exact c_mk H rfl rfl rfl (h := hK) | exact la_boxN H rfl rfl hK | exact la_box1 H rfl rfl rfl hK | exact c_s1t H rfl rfl rfl (h := hK) | exact c_s1c H rfl rfl (h := hK))
  (hs : ∀ g, putL L o.dst (v g) = L' g := by intro g; ((try simp only [nrm, putL_s, putL_n, ↓reduceIte, Nat.reduceAdd]); (try exact rfl))) (H : Hp T w0 w l) : wpList P ops Q (o :: rest) ⟨L.toArray, ds⟩ w :=
 wl_rw hw fun K hK => he H K fun g w' h1 h2 h3 => hK _ _ (by rw [put_eq, hs]; exact h g w' h1 h2 h3)
theorem x_s {b : Nat} {l' : List Ent} {L' : List Value}
  (h : ∀ w', Fr [b] w w' → Hp T w0 w' l' → wpList P ops Q rest ⟨L'.toArray, ds⟩ w')
  (hw : Region.wanted o (yielded ops L.toArray) = true := by rfl)
  (he : Hp T w0 w l → ∀ K : Act → World → Prop, (∀ w', Fr [b] w w' → Hp T w0 w' l' → K (Act.put ⟨L.toArray, ds⟩ o.dst undef) w') → o.wp P ⟨L.toArray, ds⟩ w K Q := by
   intro H K hK
   first | exact c_st H rfl rfl rfl (h := hK) | exact c_stc H rfl rfl (h := hK) | exact c_stn H rfl rfl rfl (h := hK))
  (hs : putL L o.dst undef = L' := by ((try simp only [nrm, putL_s, putL_n, ↓reduceIte, Nat.reduceAdd]); (try exact rfl))) (H : Hp T w0 w l) : wpList P ops Q (o :: rest) ⟨L.toArray, ds⟩ w :=
 wl_rw hw fun K hK => he H K fun w' h2 h3 => hK _ _ (by rw [put_eq, hs]; exact h w' h2 h3)
theorem x_c (H : Hp T w0 w l) {f : FuncId} {args : Array Value} {R R' : Ending → World → Prop} (hc : Calls P f args w R) (h : ∀ e w', R e w' → Hp T w0 w' l → R' e w')
  (hR : ∀ e w', R e w' → Fr [] w w' := by
   intro e w' h
   first | exact h.2 | exact h.2.1 | (obtain ⟨_, h⟩ := h; first | exact h.2 | exact h.2.1 | (obtain ⟨_, h⟩ := h; first | exact h.2 | exact h.2.1 | (obtain ⟨_, h⟩ := h; first | exact h.2 | exact h.2.1 | (obtain ⟨_, h⟩ := h; first | exact h.2 | exact h.2.1 | (obtain ⟨_, h⟩ := h; first | exact h.2 | exact h.2.1)))))) : Calls P f args w R' :=
 Calls.mono hc fun e w' hr => h e w' hr (H.step (hR e w' hr) (by simp))
section
variable {lo : List Oper} {S : World → Prop} {f i : Nat} {k : Plan}
theorem p_e {v : Value} {L' : List Value} (hi : lo[i]? = some o) (he : ∀ w, S w → (execOp (Act.mk L.toArray ds).eval o).run P w = .ok (.value v) w) (h : k.wp P lo.toArray Q S f ⟨L'.toArray, ds⟩ w)
  (hw : Region.wanted o (yielded lo.toArray L.toArray) = true := by rfl) (hs : putL L o.dst v = L' := by ((try simp only [nrm, putL_s, putL_n, ↓reduceIte, Nat.reduceAdd]); (try exact rfl))) : Plan.wp P lo.toArray Q S f (.st i k) ⟨L.toArray, ds⟩ w := by
 subst hs; exact pl_ev hi hw he (by rw [put_eq]; exact h)
theorem p_ef {v : Value} {L' : List Value} (hi : lo[i]? = some o) (he : ∀ w, True → (execOp (Act.mk L.toArray ds).eval o).run P w = .ok (.value v) w) (h : k.wp P lo.toArray Q S f ⟨L'.toArray, ds⟩ w)
  (hw : Region.wanted o (yielded lo.toArray L.toArray) = true := by rfl) (hs : putL L o.dst v = L' := by ((try simp only [nrm, putL_s, putL_n, ↓reduceIte, Nat.reduceAdd]); (try exact rfl))) : Plan.wp P lo.toArray Q S f (.stf i k) ⟨L.toArray, ds⟩ w := by
 subst hs; exact pl_evf hi hw he (by rw [put_eq]; exact h)
theorem p_n {L' : List Value} (h : k.wp P lo.toArray Q S f ⟨L'.toArray, ds⟩ w) (hi : lo[i]? = some o := by rfl)
  (hw : Region.wanted o (yielded lo.toArray L.toArray) = false := by rfl) (hs : putL L o.dst undef = L' := by ((try simp only [nrm, putL_s, putL_n, ↓reduceIte, Nat.reduceAdd]); (try exact rfl))) : Plan.wp P lo.toArray Q S f (.st i k) ⟨L.toArray, ds⟩ w := by
 subst hs; exact pl_no hi hw (by rw [put_eq]; exact h)
theorem p_q {v : Value} {L' : List Value} (h : k.wp P lo.toArray Q S f ⟨L'.toArray, ds⟩ w) (hi : lo[i]? = some o := by rfl)
  (hw : Region.wanted o (yielded lo.toArray L.toArray) = true := by rfl)
  (he : ∀ w, S w → (execOp (Act.mk L.toArray ds).eval o).run P w = .ok (.value v) w := by
   intro w H
   first
   | exact c_fa2 rfl rfl
   | exact c_fa rfl rfl
   | (refine g_ld rfl ?_; first | exact c_ld H rfl rfl | exact c_ld0 H rfl rfl | exact c_ldz H rfl rfl | exact c_ldr H rfl rfl | exact c_ln H rfl rfl | exact c_lnp H rfl rfl | exact c_lnz H rfl rfl | exact c_lnr H rfl rfl)
   | exact ev_moveT rfl rfl | exact ev_moveC rfl | exact ev_moveG rfl | exact ev_moveF rfl
   | exact ev_assignT rfl rfl | exact ev_assignC rfl
   | exact ev_nilCheck rfl rfl
   | (refine g_cm rfl rfl ?_; first | exact ev_cmpT rfl rfl rfl rfl | exact ev_cmpF rfl rfl rfl rfl | exact c_bEq rfl rfl rfl | exact c_bNe rfl rfl rfl | exact c_peq rfl rfl | exact c_pne rfl rfl | exact c_seq rfl rfl | exact ev_strEq rfl rfl rfl | exact ev_strNe rfl rfl rfl)
   | exact c_ix rfl rfl rfl
   | (refine g_sl rfl ?_; first | exact c_ss rfl rfl | exact c_ssh rfl rfl rfl | exact c_sshA rfl rfl rfl | exact c_ssl rfl rfl rfl | exact c_sslh rfl rfl rfl rfl | exact c_sa rfl rfl | exact c_sah rfl rfl rfl)
   | (refine g_cv rfl ?_; first | exact c_cv rfl rfl | exact c_cv64 rfl rfl | exact c_cv32 rfl rfl | exact c_cv8 rfl rfl)
   | exact c_len rfl rfl
   | exact c_sta rfl
   | exact c_stp rfl
   | exact ev_pickTC rfl rfl | exact ev_pickFT rfl rfl rfl | exact ev_pickFC rfl rfl | exact ev_pickTT rfl rfl rfl
   | exact ev_add rfl rfl rfl (by first | (simp only [inr]; omega) | assumption)
   | exact ev_sub rfl rfl rfl (by first | (simp only [inr]; omega) | assumption)
   | exact ev_mul rfl rfl rfl (by first | (simp only [inr]; omega) | assumption)
   | exact ev_extract rfl rfl rfl
   | exact ev_not rfl rfl
   | exact ev_quo rfl rfl rfl
   | exact ev_rem rfl rfl rfl)
  (hs : putL L o.dst v = L' := by ((try simp only [nrm, putL_s, putL_n, ↓reduceIte, Nat.reduceAdd]); (try exact rfl))) : Plan.wp P lo.toArray Q S f (.st i k) ⟨L.toArray, ds⟩ w := p_e hi he h hw hs
theorem p_qf {v : Value} {L' : List Value} (h : k.wp P lo.toArray Q S f ⟨L'.toArray, ds⟩ w) (hi : lo[i]? = some o := by rfl)
  (hw : Region.wanted o (yielded lo.toArray L.toArray) = true := by rfl)
  (he : ∀ w, True → (execOp (Act.mk L.toArray ds).eval o).run P w = .ok (.value v) w := by
   intro w H
   first | exact c_fa2 rfl rfl | exact c_fa rfl rfl | exact ev_moveT rfl rfl | exact ev_moveC rfl | exact ev_moveG rfl | exact ev_moveF rfl | exact ev_assignT rfl rfl | exact ev_assignC rfl | exact ev_nilCheck rfl rfl | exact c_len rfl rfl | exact c_sta rfl | exact ev_extract rfl rfl rfl)
  (hs : putL L o.dst v = L' := by ((try simp only [nrm, putL_s, putL_n, ↓reduceIte, Nat.reduceAdd]); (try exact rfl))) : Plan.wp P lo.toArray Q S f (.stf i k) ⟨L.toArray, ds⟩ w := p_ef hi he h hw hs
theorem p_g {zs : List Value} {t : TypeId} {v : Nat → Value} {L' : Nat → List Value}
  (h : ∀ g w', w0.heap.size ≤ g ∧ w.heap.size ≤ g → Fr [] w w' → Hp T w0 w' (.blk g zs t :: l) → k.wp P lo.toArray Q S f ⟨(L' g).toArray, ds⟩ w') (hi : lo[i]? = some o := by rfl)
  (hw : Region.wanted o (yielded lo.toArray L.toArray) = true := by rfl)
  (he : Hp T w0 w l → ∀ K : Act → World → Prop, (∀ g w', w0.heap.size ≤ g ∧ w.heap.size ≤ g → Fr [] w w' → Hp T w0 w' (.blk g zs t :: l) → K (Act.put ⟨L.toArray, ds⟩ o.dst (v g)) w') → o.wp P ⟨L.toArray, ds⟩ w K Q := by
   intro H K hK
   first | exact c_al H rfl hK | exact c_mk H rfl rfl rfl (h := hK) | exact la_boxN H rfl rfl hK | exact la_box1 H rfl rfl rfl hK | exact c_s1t H rfl rfl rfl (h := hK) | exact c_s1c H rfl rfl (h := hK))
  (hs : ∀ g, putL L o.dst (v g) = L' g := by intro g; ((try simp only [nrm, putL_s, putL_n, ↓reduceIte, Nat.reduceAdd]); (try exact rfl)))
  (hS : i ≠ f → ∀ g w', Hp T w0 w' (.blk g zs t :: l) → S w' := by intro hne g w' H1; first | exact absurd rfl hne | exact trivial | exact H1.sub (by repeat first | exact List.Sublist.refl _ | exact List.nil_sublist _ | apply List.Sublist.cons_cons | apply List.Sublist.cons))
  (H : Hp T w0 w l) : Plan.wp P lo.toArray Q S f (.ld i k) ⟨L.toArray, ds⟩ w :=
 pl_rw hi hw fun K hK => he H K fun g w' h1 h2 h3 => hK _ _ (fun hne => hS hne g w' h3) (by rw [put_eq, hs]; exact h g w' h1 h2 h3)
theorem p_s {b : Nat} {l' : List Ent} {L' : List Value}
  (h : ∀ w', Fr [b] w w' → Hp T w0 w' l' → k.wp P lo.toArray Q S f ⟨L'.toArray, ds⟩ w') (hi : lo[i]? = some o := by rfl)
  (hw : Region.wanted o (yielded lo.toArray L.toArray) = true := by rfl)
  (he : Hp T w0 w l → ∀ K : Act → World → Prop, (∀ w', Fr [b] w w' → Hp T w0 w' l' → K (Act.put ⟨L.toArray, ds⟩ o.dst undef) w') → o.wp P ⟨L.toArray, ds⟩ w K Q := by
   intro H K hK
   first | exact c_st H rfl rfl rfl (h := hK) | exact c_stc H rfl rfl (h := hK) | exact c_stn H rfl rfl rfl (h := hK))
  (hs : putL L o.dst undef = L' := by ((try simp only [nrm, putL_s, putL_n, ↓reduceIte, Nat.reduceAdd]); (try exact rfl)))
  (hS : i ≠ f → ∀ w', Hp T w0 w' l' → S w' := by intro hne w' H1; first | exact absurd rfl hne | exact trivial | exact H1.sub (by repeat first | exact List.Sublist.refl _ | exact List.nil_sublist _ | apply List.Sublist.cons_cons | apply List.Sublist.cons))
  (H : Hp T w0 w l) : Plan.wp P lo.toArray Q S f (.ld i k) ⟨L.toArray, ds⟩ w :=
 pl_rw hi hw fun K hK => he H K fun w' h2 h3 => hK _ _ (fun hne => hS hne w' h3) (by rw [put_eq, hs]; exact h w' h2 h3)
theorem p_c (H : Hp T w0 w l) {fi : FuncId} {al : List Operand} {ats : Array TypeId} (hi : lo[i]? = some o) (ho : o.op = .call { callee := .value (.func fi), args := al.toArray, argTypes := ats }) {fn : Func} (hf : P.funcs[fi]? = some fn)
  {R : Ending → World → Prop} (hc : Calls P fi (al.map (Act.mk L.toArray ds).eval).toArray w R) (h : ∀ e w', R e w' → Hp T w0 w' l → ∃ v, e = .returned v ∧ k.wp P lo.toArray Q S f ⟨(putL L o.dst v).toArray, ds⟩ w')
  (hR : ∀ e w', R e w' → Fr [] w w' := by
   intro e w' h
   first | exact h.2 | exact h.2.1 | (obtain ⟨_, h⟩ := h; first | exact h.2 | exact h.2.1 | (obtain ⟨_, h⟩ := h; first | exact h.2 | exact h.2.1 | (obtain ⟨_, h⟩ := h; first | exact h.2 | exact h.2.1 | (obtain ⟨_, h⟩ := h; first | exact h.2 | exact h.2.1 | (obtain ⟨_, h⟩ := h; first | exact h.2 | exact h.2.1))))))
  (hS : i ≠ f → ∀ w', Hp T w0 w' l → S w' := by intro hne w' H1; first | exact absurd rfl hne | exact trivial | exact H1.sub (by repeat first | exact List.Sublist.refl _ | exact List.nil_sublist _ | apply List.Sublist.cons_cons | apply List.Sublist.cons))
  (hn : (fn.name == "runtime.NumGoroutine") = false := by kernel_rfl) (hb : fn.body.isNone = false := by rfl)
  (hw : Region.wanted o (yielded lo.toArray L.toArray) = true := by rfl) : Plan.wp P lo.toArray Q S f (.ld i k) ⟨L.toArray, ds⟩ w :=
 pl_rw hi hw fun K hK => rw_call ho hf hn hb hc fun e w' hr => by
  have H1 := H.step (hR e w' hr) (by simp)
  obtain ⟨v, hv, hk⟩ := h e w' hr H1
  exact ⟨v, hv, hK _ _ (fun hne => hS hne w' H1) (by rw [put_eq]; exact hk)⟩
theorem p_r {v : Value} {d : Option Nat} {L' : List Value} (h : k.wp P lo.toArray Q S f ⟨L'.toArray, ds⟩ w) (hs : putL L d v = L' := by ((try simp only [nrm, putL_s, putL_n, ↓reduceIte, Nat.reduceAdd]); (try exact rfl))) : ∃ u, Ending.returned v = .returned u ∧ k.wp P lo.toArray Q S f ⟨(putL L d u).toArray, ds⟩ w := by
 subst hs; exact ⟨v, rfl, h⟩
end
theorem w_p {id : Nat} {lS : List Ent} (f : Nat) (p : Plan) (h : ∀ w', Hp T w0 w' l → p.wp P ops Q (fun w => Hp T w0 w lS) f a w') (hs : List.Sublist lS l := by exact List.Sublist.refl _) (hm : P.follows .mixedOrders = true := by rfl) (hns : Region.noSelect ops = true := by kernel_rfl) (hc : p.chk ops f ops.size (Array.replicate ops.size false) = true := by kernel_rfl)
  (hQ : ∀ c a d v w, Q (.panic c) (Act.put a d v) w → Q (.panic c) a w := by intro c a d v w h; cases d <;> exact h) (H : Hp T w0 w l) : (Code.region id ops true).wp P Q a w := wp_plan H hs f p hm hns hc hQ h
end
end Go.Proofs.YtbiohhmpclnpgaaGreatDoor
