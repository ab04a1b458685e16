import Derived.Test.YtomggcdmhflboaaGreatDoorXMb1
import Derived.Test.YtomggcdmhflboaaGreatDoorXMd0
import Derived.Test.YtomggcdmhflboaaGreatDoorXEa1
namespace Go.Proofs.YtomggcdmhflboaaGreatDoor
open Go.RowKit
set_option linter.unusedSimpArgs false
set_option linter.unusedVariables false
set_option maxHeartbeats 8000000
set_option maxRecDepth 100000
section
variable {P : Program} {a : Act} {w : World} {o : Oper}
theorem ev_strEqB {t t' : TypeId} {x y : Operand} (ho : o.op = .binOp .eql t x y t') {s r : List UInt8} (hx : a.eval x = strV s) (hy : a.eval y = strV r) {b : Bool} (hs : Hid ((s == r) = b)) : (execOp a.eval o).run P w = .ok (.value (.bool b)) w := by
 rw [← hs.out]; exact ev_strEq ho hx hy
theorem ev_strNeB {t t' : TypeId} {x y : Operand} (ho : o.op = .binOp .neq t x y t') {s r : List UInt8} (hx : a.eval x = strV s) (hy : a.eval y = strV r) {b : Bool} (hs : Hid ((s == r) = b)) : (execOp a.eval o).run P w = .ok (.value (.bool (!b))) w := by
 rw [← hs.out]; exact ev_strNe ho hx hy
end
theorem below_any (w : World) (sym i j : Nat) (hs : sym ≤ 2) {b : Bool} (hb : Hid (may sym i j = b)) :
  Calls Tryz.prog 78 #[.int .i64 (sym : Int), .int .i64 (i : Int), .int .i64 (j : Int)] w fun e w' => e = .returned (.bool b) ∧ Fr [] w w' := by
 have H := Hp.start [] w
 by_cases h0 : sym = 0
 ·have HB : Hid (b = true) := hid (by rw [← hb.out, h0]; rfl)
  subst h0
  go_enter Tryz.func78, Tryz.ntmps78
  go_wp2_with (refine x_q H ?_)
  go_ret
  exact ⟨by first | rfl | (rw [HB.out]; rfl), H.fr⟩
 ·have g0 : ¬ (sym : Int) = 0 := by omega
  by_cases h1 : j < i
  ·have HB : Hid (b = true) := hid (by rw [← hb.out]; unfold may; simp [h1])
   go_enter Tryz.func78, Tryz.ntmps78
   go_wp2_with (refine x_q H ?_)
   go_ret
   exact ⟨by first | rfl | (rw [HB.out]; rfl), H.fr⟩
  ·by_cases h2 : sym = 1
   ·by_cases h3 : i = j
    ·have HB : Hid (b = true) := hid (by rw [← hb.out, h2, h3]; unfold may; simp)
     subst h2 h3
     go_enter Tryz.func78, Tryz.ntmps78
     go_wp2_with (refine x_q H ?_)
     go_ret
     exact ⟨by first | rfl | (rw [HB.out]; rfl), H.fr⟩
    ·have HB : Hid (b = false) := hid (by rw [← hb.out, h2]; unfold may; simp [h1, h3])
     have h3' : i < j := by omega
     subst h2
     clear h1 h3
     go_enter Tryz.func78, Tryz.ntmps78
     go_wp2_with (refine x_q H ?_)
     go_ret
     exact ⟨by first | rfl | (rw [HB.out]; rfl), H.fr⟩
   ·obtain rfl : sym = 2 := by omega
    have HB : Hid (b = false) := hid (by rw [← hb.out]; unfold may; simp [h1])
    go_enter Tryz.func78, Tryz.ntmps78
    go_wp2_with (refine x_q H ?_)
    go_ret
    exact ⟨by first | rfl | (rw [HB.out]; rfl), H.fr⟩
def fileV (h : Hd) : Value := .agg #[.int .i64 0, .int .i64 0, .slice none 0 0, .slice none 0 0, .slice none 0 0, .bool h.arr, .int .i64 (h.field : Int), .int .i64 (h.sym : Int)]
theorem wrap64_id {n : Int} (h : -9223372036854775808 ≤ n ∧ n ≤ 9223372036854775807) : wrap64 n = n := by unfold wrap64; omega
theorem stored_any (w : World) (h : Hd) (m n : Nat) (hs : h.sym ≤ 2) (hm : m ≤ 200) (hn : n ≤ 200) {z : Nat} (hz : Hid (stored h.sym m n = z)) :
  Calls Tryz.prog 46 #[fileV h, .int .i64 (m : Int), .int .i64 (n : Int)] w fun e w' => e = .returned (.int .i64 (z : Int)) ∧ Fr [] w w' := by
 have H := Hp.start [] w
 obtain ⟨arr, field, sym⟩ := h
 simp only at hs hz
 have k1 : m * (m + 1) ≤ 200 * 201 := Nat.mul_le_mul hm (by omega)
 have k2 : m * n ≤ 200 * 200 := Nat.mul_le_mul hm hn
 have k3 : m * (m - 1) ≤ 200 * 200 := Nat.mul_le_mul hm (by omega)
 unfold fileV
 rcases (show sym = 0 ∨ sym = 1 ∨ sym = 2 by omega) with rfl | rfl | rfl
 ·have e1 : (m : Int) * (n : Int) = ((m * n : Nat) : Int) := by rw [Int.natCast_mul]
  have i1 : inr .i64 ((m : Int) * (n : Int)) := by rw [e1]; simp only [inr]; omega
  have E1 := hid e1
  clear e1 k1 k2 k3
  go_enter Tryz.func46, Tryz.ntmps46
  go_wp2_with (first | refine x_q H ?_ | (revert H; refine x_g ?_; intro g w1 hg hf H; replace hf := hf.kp) | refine x_e (ev_mul rfl rfl rfl (by assumption)) ?_)
  go_ret
  refine ⟨?_, H.fr⟩
  rw [E1.out, ← hz.out]
  rfl
 ·have e1 : (m : Int) * ((m : Int) + 1) = ((m * (m + 1) : Nat) : Int) := by rw [Int.natCast_mul]; rfl
  have i1 : inr .i64 ((m : Int) * ((m : Int) + 1)) := by rw [e1]; simp only [inr]; omega
  have e2 : ((m : Int) * ((m : Int) + 1)).tdiv 2 = ((m * (m + 1) / 2 : Nat) : Int) := by rw [e1, Int.tdiv_eq_ediv_of_nonneg (by omega)]; omega
  have E2 := hid e2
  have KW := hid (show -9223372036854775808 ≤ ((m * (m + 1) / 2 : Nat) : Int) ∧ ((m * (m + 1) / 2 : Nat) : Int) ≤ 9223372036854775807 from ⟨by omega, by omega⟩)
  clear e1 e2 k1 k2 k3
  go_enter Tryz.func46, Tryz.ntmps46
  go_wp2_with (first | refine x_q H ?_ | (revert H; refine x_g ?_; intro g w1 hg hf H; replace hf := hf.kp) | refine x_e (ev_mul rfl rfl rfl (by assumption)) ?_)
  go_ret
  refine ⟨?_, H.fr⟩
  rw [← hz.out]
  exact congrArg (fun z => Ending.returned (.int .i64 z)) ((congrArg wrap64 E2.out).trans ((wrap64_id KW.out).trans rfl))
 ·have e0 : (m : Int) * ((m : Int) - 1) = ((m * (m - 1) : Nat) : Int) := by
   rcases Nat.eq_zero_or_pos m with h0 | h0
   ·subst h0; rfl
   ·rw [Int.natCast_mul]; congr 1; omega
  have i1 : inr .i64 ((m : Int) * ((m : Int) - 1)) := by rw [e0]; simp only [inr]; omega
  have e2 : ((m : Int) * ((m : Int) - 1)).tdiv 2 = ((m * (m - 1) / 2 : Nat) : Int) := by rw [e0, Int.tdiv_eq_ediv_of_nonneg (by omega)]; omega
  have E2 := hid e2
  have KW := hid (show -9223372036854775808 ≤ ((m * (m - 1) / 2 : Nat) : Int) ∧ ((m * (m - 1) / 2 : Nat) : Int) ≤ 9223372036854775807 from ⟨by omega, by omega⟩)
  clear e0 e2 k1 k2 k3
  go_enter Tryz.func46, Tryz.ntmps46
  go_wp2_with (first | refine x_q H ?_ | (revert H; refine x_g ?_; intro g w1 hg hf H; replace hf := hf.kp) | refine x_e (ev_mul rfl rfl rfl (by assumption)) ?_)
  go_ret
  refine ⟨?_, H.fr⟩
  rw [← hz.out]
  exact congrArg (fun z => Ending.returned (.int .i64 z)) ((congrArg wrap64 E2.out).trans ((wrap64_id KW.out).trans rfl))
def idxI (vs : List (List UInt8)) (d : List UInt8) : Int := if d ∈ vs then (vs.idxOf d : Int) else -1
theorem idxOf_at : ∀ (vs : List (List UInt8)) (k : Nat) (d : List UInt8), vs[k]? = some d → d ∉ vs.take k → vs.idxOf d = k
 | [], k, d, h, _ => by simp at h
 | v :: vs, 0, d, h, _ => by
  have e : v = d := by simpa using h
  rw [e, List.idxOf_cons_self]
 | v :: vs, k + 1, d, h, hn => by
  rw [List.take_succ_cons, List.mem_cons, not_or] at hn
  rw [List.idxOf_cons, idxOf_at vs k d (by simpa using h) hn.2]
  have e : (v == d) = false := by simpa using fun e => hn.1 e.symm
  rw [e]; rfl
theorem idx_hit {vs : List (List UInt8)} {d : List UInt8} {k : Nat} (hk : vs[k]? = some d) (hn : d ∉ vs.take k) : idxI vs d = k := by
 unfold idxI
 rw [if_pos (List.mem_of_getElem? hk), idxOf_at vs k d hk hn]
theorem index_any (w : World) (vs : List (List UInt8)) (d : List UInt8) {b n c : Nat} (hn : vs.length = n) (hn2 : n ≤ 100) (hc : ∀ j s, vs[j]? = some s → w.cell? ⟨b, j, none⟩ = some (strV s)) {z : Int} (hz : Hid (idxI vs d = z)) :
  Calls Tryz.prog 43 #[.slice (some ⟨b, 0, none⟩) n c, strV d] w fun e w' => e = .returned (.int .i64 z) ∧ Fr [] w w' := by
 subst hn
 have HC := hid hc
 clear hc
 have H := Hp.start [] w
 go_enter Tryz.func43, Tryz.ntmps43
 go_wp2_with fail
 go_loopw [8] (fun s8 wr => ∃ k : Nat, s8 = .int .i64 (k : Int) ∧ k ≤ vs.length ∧ Hid (d ∉ vs.take k) ∧ Hp [] w wr []) (fun v _ => vs.length - (intOf v).toNat)
 case atStart => exact ⟨0, rfl, Nat.zero_le _, hid (by simp), H⟩
 case round =>
  clear H
  obtain ⟨k, rfl, hk, HD, H⟩ := hrel
  by_cases hlt : k < vs.length
  ·obtain ⟨s, hs⟩ : ∃ s, vs[k]? = some s := ⟨_, List.getElem?_eq_getElem hlt⟩
   have hcell := H.fr.cell (HC.out k s hs) (by simp)
   by_cases hd : d = s
   ·have hE : Hid ((d == s) = true) := hid (by simp [hd])
    have HZ := hid (show z = (k : Int) by rw [← hz.out]; exact idx_hit (hd ▸ hs) HD.out)
    go_wp2_with (first | refine x_e (ev_strEqB rfl rfl rfl (by assumption)) ?_ | refine x_q H ?_ | refine x_e (c_ldc rfl rfl (by assumption)) ?_)
    go_ret
    exact ⟨by first | rfl | (rw [HZ.out]; rfl), H.fr⟩
   ·have hE : Hid ((d == s) = false) := hid (by simp [hd])
    have HD2 := hid (show d ∉ vs.take (k + 1) by rw [List.take_add_one, hs]; simp [HD.out, hd])
    clear HD
    go_wp2_with (first | refine x_e (ev_strEqB rfl rfl rfl (by assumption)) ?_ | refine x_q H ?_ | refine x_e (c_ldc rfl rfl (by assumption)) ?_)
    go_roundw
    case rel => exact ⟨k + 1, rfl, by omega, HD2, H⟩
    case measure => (simp [intOf]; try omega)
  ·have hke : k = vs.length := by omega
   have HZ := hid (show z = -1 by
    rw [← hz.out]; unfold idxI
    have := HD.out
    rw [hke, List.take_length] at this
    rw [if_neg this])
   clear hke
   go_wp2_with (refine x_q H ?_)
   go_ret
   exact ⟨by first | rfl | (rw [HZ.out]; rfl), H.fr⟩
end Go.Proofs.YtomggcdmhflboaaGreatDoor
namespace Go.Proofs.YtomggcdmhflboaaGreatDoor
open Go.RowKit
set_option linter.unusedSimpArgs false
set_option linter.unusedVariables false
set_option maxHeartbeats 16000000
set_option maxRecDepth 100000
def cmp3 (x y : Int) : Int := if x < y then -1 else if y < x then 1 else 0
def eC (x : En) : List Value := [.int .i64 (x.1 : Int), .int .i64 (x.2.1 : Int), .int .u64 (x.2.2 : Int)]
theorem isnan_any (w : World) (x : Int) : Calls Tryz.prog 158 #[.int .i64 x] w fun e w' => e = .returned (.bool false) ∧ Fr [] w w' := by
 have H := Hp.start [] w
 go_enter Tryz.func158, Tryz.ntmps158
 go_wp2_with (refine x_q H ?_)
 go_ret
 exact ⟨rfl, H.fr⟩
theorem compareI_any (w : World) (x y : Int) {z : Int} (hz : Hid (cmp3 x y = z)) : Calls Tryz.prog 186 #[.int .i64 x, .int .i64 y] w fun e w' => e = .returned (.int .i64 z) ∧ Fr [] w w' := by
 have H := Hp.start [] w
 rcases (show x < y ∨ y < x ∨ x = y by omega) with h1 | h1 | h1
 ·have HZ : Hid (z = -1) := hid (by rw [← hz.out]; unfold cmp3; rw [if_pos h1])
  go_enter Tryz.func186, Tryz.ntmps186
  go_wp2_with fail
  (refine x_c H (isnan_any _ x) ?_; clear H; rintro e w1 ⟨rfl, hF⟩ H; clear hF)
  go_wp2_with fail
  (refine x_c H (isnan_any _ y) ?_; clear H; rintro e w1 ⟨rfl, hF⟩ H; clear hF)
  go_wp2_with (refine x_q H ?_)
  go_ret
  exact ⟨by rw [HZ.out]; rfl, H.fr⟩
 ·have HZ : Hid (z = 1) := hid (by rw [← hz.out]; unfold cmp3; rw [if_neg (by omega), if_pos h1])
  have h2 : ¬ x < y := by omega
  go_enter Tryz.func186, Tryz.ntmps186
  go_wp2_with fail
  (refine x_c H (isnan_any _ x) ?_; clear H; rintro e w1 ⟨rfl, hF⟩ H; clear hF)
  go_wp2_with fail
  (refine x_c H (isnan_any _ y) ?_; clear H; rintro e w1 ⟨rfl, hF⟩ H; clear hF)
  go_wp2_with (refine x_q H ?_)
  go_ret
  exact ⟨by rw [HZ.out]; rfl, H.fr⟩
 ·have HZ : Hid (z = 0) := hid (by rw [← hz.out, h1]; unfold cmp3; rw [if_neg (by omega), if_neg (by omega)])
  subst h1
  go_enter Tryz.func186, Tryz.ntmps186
  go_wp2_with fail
  (refine x_c H (isnan_any _ x) ?_; clear H; rintro e w1 ⟨rfl, hF⟩ H; clear hF)
  go_wp2_with fail
  (refine x_c H (isnan_any _ x) ?_; clear H; rintro e w1 ⟨rfl, hF⟩ H; clear hF)
  go_wp2_with (refine x_q H ?_)
  go_ret
  exact ⟨by rw [HZ.out]; rfl, H.fr⟩
theorem or_any (w : World) (a b : Int) {g : Nat} (ha : w.cell? ⟨g, 0, none⟩ = some (.int .i64 a)) (hb : w.cell? ⟨g, 1, none⟩ = some (.int .i64 b)) {z : Int} (hz : Hid ((if a = 0 then b else a) = z)) :
  Calls Tryz.prog 185 #[.slice (some ⟨g, 0, none⟩) 2 2] w fun e w' => e = .returned (.int .i64 z) ∧ Fr [] w w' := by
 have HA := hid ha
 have HB := hid hb
 clear ha hb
 have H := Hp.start [] w
 go_enter Tryz.func185, Tryz.ntmps185
 go_wp2_with fail
 go_loopw [8] (fun s8 wr => ∃ k : Nat, s8 = .int .i64 (k : Int) ∧ (k = 0 ∨ (k = 1 ∧ a = 0) ∨ (k = 2 ∧ a = 0 ∧ b = 0)) ∧ Hp [] w wr []) (fun v _ => 3 - (intOf v).toNat)
 case atStart => exact ⟨0, rfl, .inl rfl, H⟩
 case round =>
  clear H
  obtain ⟨k, rfl, hk, H⟩ := hrel
  rcases hk with rfl | ⟨rfl, h0⟩ | ⟨rfl, h0, h1⟩
  ·have hc := H.fr.cell HA.out (by simp)
   by_cases h0 : a = 0
   ·have HE : Hid (a = 0) := hid h0
    clear hz
    go_wp2_with (first | refine x_q H ?_ | refine x_e (c_ldc rfl rfl (by assumption)) ?_)
    go_roundw
    case rel => exact ⟨1, rfl, .inr (.inl ⟨rfl, HE.out⟩), H⟩
    case measure => (simp [intOf]; try omega)
   ·have HZ : Hid (z = a) := hid (by rw [← hz.out, if_neg h0])
    clear hz
    go_wp2_with (first | refine x_q H ?_ | refine x_e (c_ldc rfl rfl (by assumption)) ?_)
    go_ret
    exact ⟨by rw [HZ.out]; rfl, H.fr⟩
  ·have hc := H.fr.cell HB.out (by simp)
   have HZ : Hid (z = b) := hid (by rw [← hz.out, if_pos h0])
   have HE : Hid (a = 0) := hid h0
   clear h0 hz
   by_cases h1 : b = 0
   ·have HE2 : Hid (b = 0) := hid h1
    go_wp2_with (first | refine x_q H ?_ | refine x_e (c_ldc rfl rfl (by assumption)) ?_)
    go_roundw
    case rel => exact ⟨2, rfl, .inr (.inr ⟨rfl, HE.out, HE2.out⟩), H⟩
    case measure => (simp [intOf]; try omega)
   ·go_wp2_with (first | refine x_q H ?_ | refine x_e (c_ldc rfl rfl (by assumption)) ?_)
    go_ret
    exact ⟨by rw [HZ.out]; rfl, H.fr⟩
  ·have HZ : Hid (z = 0) := hid (by rw [← hz.out, if_pos h0, h1])
   clear h0 h1 hz
   go_wp2_with (refine x_q H ?_)
   go_ret
   exact ⟨by rw [HZ.out]; rfl, H.fr⟩
def cmpE (x y : En) : Int := if cmp3 x.2.1 y.2.1 = 0 then cmp3 x.1 y.1 else cmp3 x.2.1 y.2.1
theorem cmpE_neg (x y : En) : cmpE x y < 0 ↔ ltE x y := by
 unfold cmpE cmp3 ltE
 repeat' split
 all_goals omega
theorem run_slice2 (w : World) (a b : Int) : (Instr.buildSlice 25 2 #[(0, .int .i64 a), (1, .int .i64 b)]).run Tryz.prog w = .ok (.slice (some ⟨w.heap.size, 0, none⟩) 2 2) (w.alloc (.cells #[.int .i64 a, .int .i64 b] 3)) := by
 simp only [Instr.buildSlice, Sem.run_bind, run_underlying Tryz.underlying25, Result.andThen_ok, Tryz.sizeOf3, Tryz.zeroValue3, Sem.run_pure]
 rw [if_neg (by decide), if_neg (by decide)]
 have hf : Instr.fill (fun i => some (i * 1, 1)) (Array.map (fun x => (Value.int .i64 0).cells[x % (Value.int .i64 0).cells.size]!) (Array.range (2 * 1))) [(0, .int .i64 a), (1, .int .i64 b)] = some #[.int .i64 a, .int .i64 b] := by simp [Instr.fill, Value.cells, show Array.range 2 = #[0, 1] from rfl]
 simp only [Sem.run_bind, Sem.run_pure, Result.andThen_ok, Tryz.zeroValue3, hf, newRow, run_newObj]
 rfl
theorem g_sl2 {Q : Exit → Act → World → Prop} {a : Act} {w w0 : World} {o : Oper} {K : Act → World → Prop} {T : List Nat} {l : List Ent} (H : Hp T w0 w l) {x y : Operand} (ho : o.op = .buildSlice 25 2 #[(0, x), (1, y)]) {m n : Int} (hx : a.eval x = .int .i64 m) (hy : a.eval y = .int .i64 n)
  (h : ∀ g w', w0.heap.size ≤ g ∧ w.heap.size ≤ g → Fr [] w w' → Hp T w0 w' (.blk g [.int .i64 m, .int .i64 n] 3 :: l) → K (a.put o.dst (.slice (some ⟨g, 0, none⟩) 2 2)) w') : o.wp Tryz.prog a w K Q := by
 refine wp_of_run ?_ (h _ _ ⟨H.fr.size, Nat.le_refl _⟩ (Fr.alloc [] w _) (H.alloc [.int .i64 m, .int .i64 n] 3))
 unfold execOp
 simp only [ho, List.map_toArray, List.map_cons, List.map_nil, hx, hy, Sem.run_bind, run_slice2, Result.andThen_ok, Sem.run_pure]
theorem srt_any (w : World) (x y : En) {z : Int} (hz : Hid (cmpE x y = z)) : Calls Tryz.prog 184 #[.agg (eC x).toArray, .agg (eC y).toArray] w fun e w' => e = .returned (.int .i64 z) ∧ Fr [] w w' := by
 have H := Hp.start [] w
 obtain ⟨i, j, f⟩ := x
 obtain ⟨k, l, d⟩ := y
 unfold eC
 obtain ⟨c1, h1⟩ : ∃ c, cmp3 (j : Int) (l : Int) = c := ⟨_, rfl⟩
 obtain ⟨c2, h2⟩ : ∃ c, cmp3 (i : Int) (k : Int) = c := ⟨_, rfl⟩
 have HZ : Hid ((if c1 = 0 then c2 else c1) = z) := hid (by rw [← hz.out]; unfold cmpE; rw [← h1, ← h2])
 have H1 := hid h1
 have H2 := hid h2
 clear h1 h2 hz
 go_enter Tryz.func184, Tryz.ntmps184
 go_wp2_with (revert H; refine x_g ?_; intro g1 w1 hg hf H; replace hf := hf.kp)
 (revert H; refine w_p 13 (.st 0 (.st 1 (.st 2 (.st 3 (.st 5 (.st 6 (.st 7 (.st 8 (.ld 4 (.ld 9 (.ld 10 (.ld 11 (.st 12 .done))))))))))))) ?_; intro w1 H)
 iterate 8 refine p_q ?_
 ((refine p_c H rfl rfl Tryz.func186 (compareI_any _ _ _ H1) ?_; clear H; rintro e w1 ⟨rfl, hF⟩ H; refine p_r ?_; clear hF))
 ((refine p_c H rfl rfl Tryz.func186 (compareI_any _ _ _ H2) ?_; clear H; rintro e w1 ⟨rfl, hF⟩ H; refine p_r ?_; clear hF))
 (revert H; refine p_g (he := fun H K hK => g_sl2 H rfl rfl rfl hK) ?_; intro g w1 hg hf H; (first | replace hf := hf.kp | clear hf))
 ((refine p_c H rfl rfl Tryz.func185 (or_any _ c1 c2 (H.blkCell (.head _) rfl) (H.blkCell (.head _) rfl) HZ) ?_; clear H; rintro e w1 ⟨rfl, hF⟩ H; refine p_r ?_; clear hF))
 refine p_q ?_
 (refine pl_done ?_)
 all_goals
  go_wp2_with fail
  go_ret
  exact ⟨rfl, H.fr⟩
end Go.Proofs.YtomggcdmhflboaaGreatDoor
