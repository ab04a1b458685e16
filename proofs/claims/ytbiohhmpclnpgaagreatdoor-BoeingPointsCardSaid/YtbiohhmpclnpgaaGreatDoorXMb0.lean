import Derived.Test.YtbiohhmpclnpgaaGreatDoorXPz2
import Derived.Test.YtbiohhmpclnpgaaGreatDoorXEa1
import Derived.Shelf.Strings.Split
import Derived.Shelf.Strings.Prefix
import Derived.Test.YtbiohhmpclnpgaaGreatDoorXMd0
namespace Go.Proofs.YtbiohhmpclnpgaaGreatDoor
open Go.RowKit
set_option linter.unusedSimpArgs false
set_option linter.unusedVariables false
def OwnM (v : Value) (s : List UInt8) (S : List Nat) (w : World) : Prop :=
 ∃ g cap cur fz, S = [g] ∧ v = .slice (some ⟨g, 0, none⟩) s.length cap ∧ w.heap[g]? = some (.cells cur 5 fz) ∧ (cur.size ≤ fz.1 ∨ fz.2 = 0) ∧ s.length ≤ cap ∧ cur.size = cap ∧ cur.toList.take s.length = bytesV s
theorem OwnM.firm {v : Value} {s : List UInt8} {S : List Nat} : Firm S (OwnM v s S) := by
 refine ⟨fun w w' R k hn h => ?_, fun w h x hx => ?_, fun w h => ?_⟩
 ·obtain ⟨g, cap, cur, fz, rfl, h1, h2, h3⟩ := h
  exact ⟨g, cap, cur, fz, rfl, h1, k.get h2 (hn g (by simp)), h3⟩
 ·obtain ⟨g, cap, cur, fz, rfl, h1, h2, h3⟩ := h
  simp only [List.mem_singleton] at hx; subst hx; exact lt_of_get h2
 ·obtain ⟨g, cap, cur, fz, rfl, _⟩ := h; simp
instance {v : Value} {s : List UInt8} {S : List Nat} : Fm S (OwnM v s S) := ⟨OwnM.firm⟩
theorem own_cells {w : World} {g : Nat} {cur : Array Value} {fz : Nat × Nat} {e : TypeId} {s : List UInt8} (h : w.heap[g]? = some (.cells cur e fz)) (ht : cur.toList.take s.length = bytesV s) : ∀ (j : Nat) u, (bytesV s)[j]? = some u → w.cell? ⟨g, j, none⟩ = some u := by
 intro j u hj
 rw [← ht] at hj
 have hlt : j < s.length := by
  have := (List.getElem?_eq_some_iff.1 hj).1
  rw [List.length_take] at this; omega
 rw [List.getElem?_take_of_lt hlt] at hj
 simp only [World.cell?, h]
 simpa using hj
theorem OwnM.rd {v : Value} {s : List UInt8} {S : List Nat} {w : World} (h : OwnM v s S w) : Rd w v s.length (bytesV s) := by
 obtain ⟨g, cap, cur, fz, rfl, rfl, h2, h3, h4, h6, h7⟩ := h
 exact .inr ⟨_, cap, rfl, fun j u hj => by rw [add_mk, Nat.zero_add]; exact own_cells h2 h7 j u hj⟩
theorem OwnM.form {v : Value} {s : List UInt8} {S : List Nat} {w : World} (h : OwnM v s S w) : ∃ g c, v = .slice (some ⟨g, 0, none⟩) s.length c := by
 obtain ⟨g, cap, cur, fz, rfl, rfl, _⟩ := h
 exact ⟨g, cap, rfl⟩
section
variable {P : Program} {Q : Exit → Act → World → Prop} {a : Act} {w w0 : World} {o : Oper} {K : Act → World → Prop} {T : List Nat} {l : List Ent}
theorem c_sbM (H : Hp T w0 w l) {sT dT : TypeId} {x : Operand} (ho : o.op = .convert sT dT x) {s : List UInt8} (hx : a.eval x = strV s) [h1 : Sy P sT] [h2 : By P dT] (he : P.underlying dT = some (.slice 5)) (hu8 : P.underlying 5 = some (.int .u8)) (k : Nat)
  (h : ∀ g w' cap, Fr [] w w' → Hp T w0 w' (.obj k [g] (OwnM (.slice (some ⟨g, 0, none⟩) s.length cap) s [g]) :: l) → K (a.put o.dst (.slice (some ⟨g, 0, none⟩) s.length cap)) w') : o.wp P a w K Q := by
 have hr := run_bytes_of_string (P := P) w sT dT 5 ⟨s.toArray⟩ h1.h he hu8
 rw [ba_size] at hr
 have hF : Fr [] w (w.drew.alloc (.cells (bytesRow ⟨s.toArray⟩ (grownCap w s.length 0 5)) 5 ((bytesRow ⟨s.toArray⟩ (grownCap w s.length 0 5)).size, (bytesRow ⟨s.toArray⟩ (grownCap w s.length 0 5)).size + 1))) := (Fr.drew [] w).trans (Fr.alloc [] _ _)
 refine wp_of_run (v := .slice (some ⟨w.heap.size, 0, none⟩) s.length (grownCap w s.length 0 5)) ?_ (h w.heap.size _ (grownCap w s.length 0 5) hF ?_)
 ·unfold execOp
  unfold strV at hx
  simp only [ho, hx, Sem.run_bind, hr, Result.andThen_ok, Sem.run_pure]
 ·have hge := grownCap_ge w s.length 0 5
  have hsz : (bytesRow ⟨s.toArray⟩ (grownCap w s.length 0 5)).size = grownCap w s.length 0 5 := by
   unfold bytesRow
   simp only [Array.size_append, Array.size_map, Array.size_replicate, ba_size, List.size_toArray]
   omega
  refine H.born k hF ⟨w.heap.size, grownCap w s.length 0 5, _, _, rfl, rfl, heap_alloc_new w.drew _, .inl (Nat.le_refl _), hge, hsz, ?_⟩ OwnM.firm (by simp)
  unfold bytesRow
  rw [Array.toList_append, List.take_append_of_le_length (by simp), List.take_of_length_le (by simp)]
  simp [bytesV]
theorem OwnM.cell {g c k : Nat} {s : List UInt8} {S : List Nat} (H : Hp T w0 w l) (hm : Ent.obj k S (OwnM (.slice (some ⟨g, 0, none⟩) s.length c) s S) ∈ l) {i : Nat} {b : UInt8} (hb : s[i]? = some b) : w.cell? ⟨g, i, none⟩ = some (.int .u8 b.toNat) := by
 obtain ⟨g', cap, cur, fz, h1, h2, h3, h4, h5, h6, h7⟩ := (H.ok _ hm).1
 cases h2
 exact own_cells h3 h7 i _ (by simp [bytesV, hb])
theorem OwnM.rdL {g c k n : Nat} {s : List UInt8} {S : List Nat} (H : Hp T w0 w l) (hm : Ent.obj k S (OwnM (.slice (some ⟨g, 0, none⟩) s.length c) s S) ∈ l) (hn : s.length = n) : Rd w (.slice (some ⟨g, 0, none⟩) n c) s.length (bytesV s) := by
 subst hn
 exact OwnM.rd (H.ok _ hm).1
theorem c_stM {g c k : Nat} {s : List UInt8} {S : List Nat} (H : Hp T w0 w (.obj k S (OwnM (.slice (some ⟨g, 0, none⟩) s.length c) s S) :: l)) {t : TypeId} {x y : Operand} (b : UInt8) (ho : o.op = .store t x y) {i : Nat} {z : Int}
  (hx : a.eval x = .pointer (some ⟨g, i, none⟩)) (hy : a.eval y = .int .u8 z) (hz : z = (b.toNat : Int)) [hs : Sc P t] (hi : i < s.length)
  (h : ∀ w', Fr S w w' → Hp T w0 w' (.obj k S (OwnM (.slice (some ⟨g, 0, none⟩) (s.set i b).length c) (s.set i b) S) :: l) → K (a.put o.dst undef) w') : o.wp P a w K Q := by
 subst hz
 obtain ⟨g', cap, cur, fz, rfl, h2, hg, hfz, hnc, hcs, htake⟩ := (H.ok _ (.head _)).1
 cases h2
 have hic : i < cur.size := by omega
 have hcell : w.cell? ⟨g, i, none⟩ = some cur[i] := by simp [World.cell?, hg, hic]
 have hfr : w.frozen? ⟨g, i, none⟩ = false := by
  obtain ⟨lo, hi'⟩ := fz
  simp only [World.frozen?, hg, Bool.and_eq_false_iff, decide_eq_false_iff_not]
  simp only at hfz
  omega
 have hsz := hs.s
 have e : (Instr.storeAt t (.pointer (some ⟨g, i, none⟩)) (.int .u8 b.toNat)).run P w = .ok () (w.setCell ⟨g, i, none⟩ (.int .u8 b.toNat)) := by
  cases hq : P.info? t with
  | none => simp [hq] at hsz
  | some ti =>
   have hz : ti.size = 1 := by simpa [hq] using hsz
   have hst : (store ((⟨g, i, none⟩ : Addr).add 0) (.int .u8 b.toNat)).run P w = .ok () (w.setCell ⟨g, i, none⟩ (.int .u8 b.toNat)) := by
    rw [add_mk, Nat.add_zero, run_store P w _ _ .plain rfl, hcell]; simp [hfr]
   simp [Instr.storeAt, Instr.sureAddr, storeVar, sizeOf, typeInfo, hq, hz, Value.cells, storeCells, hst]
 rw [setCell_eq_setRow w g i cur _ fz _ hg] at e
 have hF : Fr [g] w (w.setRow g (cur.setIfInBounds i (.int .u8 b.toNat))) := Fr.setRow w g _
 refine wp_of_skip (w' := w.setRow g (cur.setIfInBounds i (.int .u8 b.toNat))) ?_ (h _ hF (H.upd k hF (S' := [g]) ⟨g, c, cur.setIfInBounds i (.int .u8 b.toNat), fz, rfl, by rw [List.length_set], setRow_heap w g cur _ _ _ hg, by simpa using hfz, by rw [List.length_set]; exact hnc, by simpa using hcs, ?_⟩ (by simp)))
 ·unfold execOp; simp only [ho, hx, hy, Sem.run_bind, e, Result.andThen_ok, Sem.run_pure]
 ·rw [List.length_set, Array.toList_setIfInBounds, List.take_set, htake]
  simp [bytesV, List.map_set]
end
end Go.Proofs.YtbiohhmpclnpgaaGreatDoor
namespace Go.Proofs
open Go.Shelf
set_option linter.unusedSimpArgs false
set_option linter.unusedVariables false
def Tryz.lays143_ren : Go.Shelf.Ren := ⟨fun | 143 => 147 | 219 => 187 | 217 => 196 | 225 => 172 | 224 => 171 | 267 => 202 | 266 => 204 | 314 => 207 | n => n, fun | 9 => 9 | 3 => 3 | 4 => 4 | 5 => 5 | 46 => 43 | 146 => 197 | 51 => 104 | n => n, fun | 1 => 7 | n => n⟩
theorem Tryz.lays143 : Go.Proofs.Lays.n143 Tryz.prog Tryz.lays143_ren := {
 mixed := by kernel_rfl
 f143 := Tryz.func147.trans (congrArg some (by kernel_rfl))
 f217 := Tryz.func196.trans (congrArg some (by kernel_rfl))
 f219 := Tryz.func187.trans (congrArg some (by kernel_rfl))
 f224 := Tryz.func171.trans (congrArg some (by kernel_rfl))
 f225 := Tryz.func172.trans (congrArg some (by kernel_rfl))
 f266 := Tryz.func204.trans (congrArg some (by kernel_rfl))
 f267 := Tryz.func202.trans (congrArg some (by kernel_rfl))
 f314 := Tryz.func207.trans (congrArg some (by kernel_rfl))
 t3 := Tryz.underlying3
 a3 := Tryz.isAgg3
 z3 := Tryz.sizeOf3
 v3 := Tryz.zeroValue3
 t4 := Tryz.underlying4
 a4 := Tryz.isAgg4
 z4 := Tryz.sizeOf4
 v4 := Tryz.zeroValue4
 t5 := Tryz.underlying5
 a5 := Tryz.isAgg5
 z5 := Tryz.sizeOf5
 v5 := Tryz.zeroValue5
 t9 := Tryz.underlying9
 a9 := Tryz.isAgg9
 z9 := Tryz.sizeOf9
 v9 := Tryz.zeroValue9
 t46 := Tryz.underlying43
 a46 := Tryz.isAgg43
 z46 := Tryz.sizeOf43
 v46 := Tryz.zeroValue43
 t51 := Tryz.underlying104
 a51 := Tryz.isAgg104
 z51 := Tryz.sizeOf104
 v51 := Tryz.zeroValue104
 t146 := Tryz.underlying197
 a146 := Tryz.isAgg197
 z146 := Tryz.sizeOf197
 v146 := Tryz.zeroValue197
 g1 := by kernel_rfl }
open Go.RowKit Go.Lib in
theorem Tryz.strings_Index_one (s : ByteArray) (c : UInt8) (w : World) :
  Calls Tryz.prog 147 #[.string s, .string ⟨#[c]⟩] w fun e w' => e = .returned (.int .i64 (Lib.indexByte s.data.toList c)) ∧ w' = w := Any.strings_Index_one Tryz.lays143 s c w
def Tryz.lays138_ren : Go.Shelf.Ren := ⟨fun | 138 => 146 | 195 => 185 | 218 => 186 | 143 => 147 | 219 => 187 | 217 => 196 | 225 => 172 | 224 => 171 | 267 => 202 | 266 => 204 | 314 => 207 | n => n, fun | 9 => 9 | 3 => 3 | 4 => 4 | 5 => 5 | 0 => 0 | 46 => 43 | 146 => 197 | 51 => 104 | n => n, fun | 1 => 7 | n => n⟩
theorem Tryz.lays138 : Go.Proofs.Lays.n138 Tryz.prog Tryz.lays138_ren := {
 mixed := by kernel_rfl
 f138 := Tryz.func146.trans (congrArg some (by kernel_rfl))
 f143 := Tryz.func147.trans (congrArg some (by kernel_rfl))
 f195 := Tryz.func185.trans (congrArg some (by kernel_rfl))
 f217 := Tryz.func196.trans (congrArg some (by kernel_rfl))
 f218 := Tryz.func186.trans (congrArg some (by kernel_rfl))
 f219 := Tryz.func187.trans (congrArg some (by kernel_rfl))
 f224 := Tryz.func171.trans (congrArg some (by kernel_rfl))
 f225 := Tryz.func172.trans (congrArg some (by kernel_rfl))
 f266 := Tryz.func204.trans (congrArg some (by kernel_rfl))
 f267 := Tryz.func202.trans (congrArg some (by kernel_rfl))
 f314 := Tryz.func207.trans (congrArg some (by kernel_rfl))
 t0 := Tryz.underlying0
 a0 := Tryz.isAgg0
 z0 := Tryz.sizeOf0
 v0 := Tryz.zeroValue0
 t3 := Tryz.underlying3
 a3 := Tryz.isAgg3
 z3 := Tryz.sizeOf3
 v3 := Tryz.zeroValue3
 t4 := Tryz.underlying4
 a4 := Tryz.isAgg4
 z4 := Tryz.sizeOf4
 v4 := Tryz.zeroValue4
 t5 := Tryz.underlying5
 a5 := Tryz.isAgg5
 z5 := Tryz.sizeOf5
 v5 := Tryz.zeroValue5
 t9 := Tryz.underlying9
 a9 := Tryz.isAgg9
 z9 := Tryz.sizeOf9
 v9 := Tryz.zeroValue9
 t46 := Tryz.underlying43
 a46 := Tryz.isAgg43
 z46 := Tryz.sizeOf43
 v46 := Tryz.zeroValue43
 t51 := Tryz.underlying104
 a51 := Tryz.isAgg104
 z51 := Tryz.sizeOf104
 v51 := Tryz.zeroValue104
 t146 := Tryz.underlying197
 a146 := Tryz.isAgg197
 z146 := Tryz.sizeOf197
 v146 := Tryz.zeroValue197
 g1 := by kernel_rfl }
open Go.RowKit Go.Lib in
theorem Tryz.strings_Count_one (s : ByteArray) (c : UInt8) (w : World) :
  Calls Tryz.prog 146 #[.string s, .string ⟨#[c]⟩] w fun e w' => e = .returned (.int .i64 (Lib.countByte s.data.toList c)) ∧ w' = w := Any.strings_Count_one Tryz.lays138 s c w
def Tryz.lays102_ren : Go.Shelf.Ren := ⟨fun | 102 => 60 | 209 => 102 | 207 => 148 | n => n, fun | 9 => 9 | 4 => 4 | 3 => 3 | n => n, fun | n => n⟩
theorem Tryz.lays102 : Go.Proofs.Lays.n102 Tryz.prog Tryz.lays102_ren := {
 mixed := by kernel_rfl
 f102 := Tryz.func60.trans (congrArg some (by kernel_rfl))
 f207 := Tryz.func148.trans (congrArg some (by kernel_rfl))
 f209 := Tryz.func102.trans (congrArg some (by kernel_rfl))
 t3 := Tryz.underlying3
 a3 := Tryz.isAgg3
 z3 := Tryz.sizeOf3
 v3 := Tryz.zeroValue3
 t4 := Tryz.underlying4
 a4 := Tryz.isAgg4
 z4 := Tryz.sizeOf4
 v4 := Tryz.zeroValue4
 t9 := Tryz.underlying9
 a9 := Tryz.isAgg9
 z9 := Tryz.sizeOf9
 v9 := Tryz.zeroValue9 }
open Go.RowKit Go.Lib in
theorem Tryz.strings_TrimSuffix (s p : ByteArray) (w : World) (hs : s.size ≤ 9223372036854775807) :
  Calls Tryz.prog 60 #[.string s, .string p] w fun e w' => e = .returned (.string ⟨(Lib.trimSuffix s.data.toList p.data.toList).toArray⟩) ∧ w' = w := Any.strings_TrimSuffix Tryz.lays102 s p w hs
def Tryz.lays146_ren : Go.Shelf.Ren := ⟨fun | 146 => 59 | 221 => 101 | 268 => 145 | 138 => 146 | 143 => 147 | 195 => 185 | 197 => 86 | 218 => 186 | 219 => 187 | 260 => 128 | 217 => 196 | 225 => 172 | 224 => 171 | 267 => 202 | 266 => 204 | 314 => 207 | n => n, fun | 9 => 9 | 31 => 41 | 3 => 3 | 4 => 4 | 0 => 0 | 105 => 142 | 21 => 21 | 5 => 5 | 46 => 43 | 119 => 211 | 139 => 214 | 138 => 213 | 146 => 197 | 51 => 104 | n => n, fun | 1 => 7 | 3 => 1 | 4 => 2 | n => n⟩
theorem Tryz.lays146 : Go.Proofs.Lays.n146 Tryz.prog Tryz.lays146_ren := {
 mixed := by kernel_rfl
 f138 := Tryz.func146.trans (congrArg some (by kernel_rfl))
 f143 := Tryz.func147.trans (congrArg some (by kernel_rfl))
 f146 := Tryz.func59.trans (congrArg some (by kernel_rfl))
 f195 := Tryz.func185.trans (congrArg some (by kernel_rfl))
 f197 := Tryz.func86.trans (congrArg some (by kernel_rfl))
 f217 := Tryz.func196.trans (congrArg some (by kernel_rfl))
 f218 := Tryz.func186.trans (congrArg some (by kernel_rfl))
 f219 := Tryz.func187.trans (congrArg some (by kernel_rfl))
 f221 := Tryz.func101.trans (congrArg some (by kernel_rfl))
 f224 := Tryz.func171.trans (congrArg some (by kernel_rfl))
 f225 := Tryz.func172.trans (congrArg some (by kernel_rfl))
 f260 := Tryz.func128.trans (congrArg some (by kernel_rfl))
 f266 := Tryz.func204.trans (congrArg some (by kernel_rfl))
 f267 := Tryz.func202.trans (congrArg some (by kernel_rfl))
 f268 := Tryz.func145.trans (congrArg some (by kernel_rfl))
 f314 := Tryz.func207.trans (congrArg some (by kernel_rfl))
 t0 := Tryz.underlying0
 a0 := Tryz.isAgg0
 z0 := Tryz.sizeOf0
 v0 := Tryz.zeroValue0
 t3 := Tryz.underlying3
 a3 := Tryz.isAgg3
 z3 := Tryz.sizeOf3
 v3 := Tryz.zeroValue3
 t4 := Tryz.underlying4
 a4 := Tryz.isAgg4
 z4 := Tryz.sizeOf4
 v4 := Tryz.zeroValue4
 t5 := Tryz.underlying5
 a5 := Tryz.isAgg5
 z5 := Tryz.sizeOf5
 v5 := Tryz.zeroValue5
 t9 := Tryz.underlying9
 a9 := Tryz.isAgg9
 z9 := Tryz.sizeOf9
 v9 := Tryz.zeroValue9
 t21 := Tryz.underlying21
 a21 := Tryz.isAgg21
 z21 := Tryz.sizeOf21
 v21 := Tryz.zeroValue21
 t31 := Tryz.underlying41
 a31 := Tryz.isAgg41
 z31 := Tryz.sizeOf41
 v31 := Tryz.zeroValue41
 t46 := Tryz.underlying43
 a46 := Tryz.isAgg43
 z46 := Tryz.sizeOf43
 v46 := Tryz.zeroValue43
 t51 := Tryz.underlying104
 a51 := Tryz.isAgg104
 z51 := Tryz.sizeOf104
 v51 := Tryz.zeroValue104
 t105 := Tryz.underlying142
 a105 := Tryz.isAgg142
 z105 := Tryz.sizeOf142
 v105 := Tryz.zeroValue142
 t119 := Tryz.underlying211
 a119 := Tryz.isAgg211
 z119 := Tryz.sizeOf211
 t138 := Tryz.underlying213
 a138 := Tryz.isAgg213
 z138 := Tryz.sizeOf213
 v138 := Tryz.zeroValue213
 t139 := Tryz.underlying214
 a139 := Tryz.isAgg214
 z139 := Tryz.sizeOf214
 v139 := Tryz.zeroValue214
 t146 := Tryz.underlying197
 a146 := Tryz.isAgg197
 z146 := Tryz.sizeOf197
 v146 := Tryz.zeroValue197
 g1 := by kernel_rfl
 g3 := by kernel_rfl
 g4 := by kernel_rfl }
end Go.Proofs
namespace Go.Proofs.YtbiohhmpclnpgaaGreatDoor
open Go.RowKit
set_option linter.unusedSimpArgs false
set_option linter.unusedVariables false
set_option maxHeartbeats 8000000
set_option maxRecDepth 100000
theorem Hp.bornB {T : List Nat} {w0 w w' : World} {l : List Ent} {q : Nat} {cs : List Value} {t : TypeId} (H : Hp T w0 w l) (hF : Fr [] w w') (hq : w.heap.size ≤ q) (hc : w'.heap[q]? = some (.cells cs.toArray t (0, 0))) : Hp T w0 w' (.blk q cs t :: l) :=
 (H.step hF (by simp)).push hc (.inr (Nat.le_trans H.fr.size hq)) (H.notOwn hq)
def dgts (s : List UInt8) : Nat × Bool := if s.all dig = true then (min (num s) 1073741824, !s.isEmpty) else (0, false)
theorem expF_snoc (B a : Nat) (l : List UInt8) (b : UInt8) : expF B a (l ++ [b]) = min (10 * expF B a l + (b.toNat - 48)) B := by unfold expF; rw [List.foldl_append]; rfl
theorem all_snoc {l : List UInt8} {b : UInt8} : (l ++ [b]).all dig = (l.all dig && dig b) := by simp
theorem take_snoc {l : List UInt8} {k : Nat} {b : UInt8} (h : l[k]? = some b) : l.take (k + 1) = l.take k ++ [b] := by rw [List.take_add_one, h]; rfl
theorem all_out {l : List UInt8} {k : Nat} {b : UInt8} (h : l[k]? = some b) (hb : dig b = false) : l.all dig = false := by
 rw [List.all_eq_false]
 exact ⟨b, List.mem_of_getElem? h, by simp [hb]⟩
theorem digits_any (w : World) (s : List UInt8) (hs : s.length ≤ 4000000) {v : Nat} {b : Bool} (hv : Hid (dgts s = (v, b))) :
  Calls Tryz.prog 109 #[strV s] w fun e w' => e = .returned (.tuple #[.int .i64 (v : Int), .bool b]) ∧ Fr [] w w' := by
 have H := Hp.start [] w
 obtain ⟨z, hz0⟩ : ∃ z, (s == []) = z := ⟨_, rfl⟩
 have hz := hid hz0
 go_enter Tryz.func109, Tryz.ntmps109
 go_wp2_with (revert H; intro H; refine wl_rw rfl (fun K hK => c_sbM H rfl rfl Tryz.underlying37 Tryz.underlying5 1 (fun g w1 cap hf H1 => hK _ _ ?_)); clear hK K; clear H; have H := H1; clear H1; clear hf; (simp only [nrm, ↓reduceIte, Nat.reduceAdd]))
 go_loopw [4, 10] (fun s4 s10 wr => ∃ (k a : Nat), s4 = .int .i64 (a : Int) ∧ s10 = .int .i64 (k : Int) ∧ k ≤ s.length ∧ a ≤ 1073741824 ∧ Hid (expF 1073741824 0 (s.take k) = a) ∧ Hid ((s.take k).all dig = true) ∧ Hp [] w wr [.obj 1 [g] (OwnM (.slice (some ⟨g, 0, none⟩) s.length cap) s [g])]) (fun _ v _ => s.length - (intOf v).toNat)
 case atStart => exact ⟨0, 0, rfl, rfl, Nat.zero_le _, by omega, hid rfl, hid rfl, H⟩
 case round =>
  clear H
  obtain ⟨k, a, rfl, rfl, hk, ha, HE, HD, H⟩ := hrel
  by_cases hlt : k < s.length
  ·obtain ⟨c, hc⟩ : ∃ c, s[k]? = some c := ⟨_, List.getElem?_eq_getElem hlt⟩
   by_cases hd : dig c = true
   ·have hd1 := dig_le hd
    have HE2 := hid (show expF 1073741824 0 (s.take (k + 1)) = min (10 * a + (c.toNat - 48)) 1073741824 by rw [take_snoc hc, expF_snoc, HE.out])
    have HD2 := hid (show (s.take (k + 1)).all dig = true by rw [take_snoc hc, all_snoc, HD.out, hd]; rfl)
    clear HE HD hd
    obtain ⟨n, hn⟩ : ∃ n, c.toNat = n := ⟨_, rfl⟩
    obtain ⟨h48, h57⟩ := hd1
    go_wp2_with (first | refine x_q H ?_ | refine x_e (ev_min rfl rfl rfl) ?_ | refine x_e (c_ldc rfl rfl (OwnM.cell H (.head _) (by assumption))) ?_)
    go_roundw
    case rel => exact ⟨k + 1, min (10 * a + (n - 48)) 1073741824, congrArg (Value.int .i64) (by omega), rfl, by omega, by omega, hid (by rw [HE2.out, hn]), HD2, H⟩
    case measure => (simp [intOf]; try omega)
   ·have hd' : dig c = false := by simpa using hd
    have HV : Hid (v = 0 ∧ b = false) := hid (by
     have h := hv.out
     unfold dgts at h
     rw [if_neg (by rw [all_out hc hd']; decide)] at h
     cases h; exact ⟨rfl, rfl⟩)
    have hd2 : c.toNat < 48 ∨ (48 ≤ c.toNat ∧ 57 < c.toNat) := by
     unfold dig at hd'
     simp at hd'
     omega
    obtain ⟨n, hn⟩ : ∃ n, c.toNat = n := ⟨_, rfl⟩
    rw [hn] at hd2
    clear hd hd' HE HD
    rcases hd2 with h1 | ⟨h1, h2⟩
    ·go_wp2_with (first | refine x_q H ?_ | refine x_e (c_ldc rfl rfl (OwnM.cell H (.head _) (by assumption))) ?_)
     refine bodyPost_ret (results_tmp2 rfl _ _ _) rfl ?_
     exact ⟨by rw [HV.out.1, HV.out.2]; rfl, H.fr⟩
    ·go_wp2_with (first | refine x_q H ?_ | refine x_e (c_ldc rfl rfl (OwnM.cell H (.head _) (by assumption))) ?_)
     refine bodyPost_ret (results_tmp2 rfl _ _ _) rfl ?_
     exact ⟨by rw [HV.out.1, HV.out.2]; rfl, H.fr⟩
  ·have hke : k = s.length := by omega
   have HV : Hid (v = a ∧ b = !z) := hid (by
    have h := hv.out
    have h1 := HD.out
    have h2 := HE.out
    rw [hke, List.take_length] at h1 h2
    unfold dgts at h
    rw [if_pos h1] at h
    have h3 := expF_num 1073741824 s 0
    have h4 : expF 1073741824 0 s = min (num s) 1073741824 := h3
    have h5 : s.isEmpty = z := by rw [← hz.out]; cases s <;> rfl
    rw [← h4, h2, h5] at h
    cases h; exact ⟨rfl, rfl⟩)
   clear hke HE HD hz0
   go_wp2_with (first | refine x_e (ev_strNe0 rfl rfl rfl (by assumption)) ?_ | refine x_q H ?_)
   refine bodyPost_ret (results_tmp2 rfl _ _ _) rfl ?_
   exact ⟨by rw [HV.out.1, HV.out.2]; rfl, H.fr⟩
end Go.Proofs.YtbiohhmpclnpgaaGreatDoor
