import Derived.Test.YtbiohhmpclnpgaaGreatDoorXMb4
import Derived.Test.YtbiohhmpclnpgaaGreatDoorXMd0
import Derived.Test.YtbiohhmpclnpgaaGreatDoorXEa1
namespace Go.Proofs.YtbiohhmpclnpgaaGreatDoor
open Go.RowKit
set_option linter.unusedSimpArgs false
set_option linter.unusedVariables false
set_option maxHeartbeats 8000000
set_option maxRecDepth 100000
section
variable {P : Program} {a : Act} {w : World} {o : Oper}
theorem ev_strEqB {t t' : TypeId} {x y : Operand} (ho : o.op = .binOp .eql t x y t') {s r : List UInt8} (hx : a.eval x = strV s) (hy : a.eval y = strV r) {b : Bool} (hs : Hid ((s == r) = b)) : (execOp a.eval o).run P w = .ok (.value (.bool b)) w := by
 rw [← hs.out]; exact ev_strEq ho hx hy
end
end Go.Proofs.YtbiohhmpclnpgaaGreatDoor
namespace Go.Proofs.YtbiohhmpclnpgaaGreatDoor
open Go.RowKit
set_option linter.unusedSimpArgs false
set_option linter.unusedVariables false
set_option maxHeartbeats 16000000
set_option maxRecDepth 100000
def cmp3 (x y : Int) : Int := if x < y then -1 else if y < x then 1 else 0
def eC (x : En) : List Value := [.int .i64 (x.1 : Int), .int .i64 (x.2.1 : Int), .int .u64 (x.2.2 : Int)]
theorem isnan_any (w : World) (x : Int) : Calls Tryz.prog 157 #[.int .i64 x] w fun e w' => e = .returned (.bool false) ∧ Fr [] w w' := by
 have H := Hp.start [] w
 go_enter Tryz.func157, Tryz.ntmps157
 go_wp2_with (refine x_q H ?_)
 go_ret
 exact ⟨rfl, H.fr⟩
theorem compareI_any (w : World) (x y : Int) {z : Int} (hz : Hid (cmp3 x y = z)) : Calls Tryz.prog 193 #[.int .i64 x, .int .i64 y] w fun e w' => e = .returned (.int .i64 z) ∧ Fr [] w w' := by
 have H := Hp.start [] w
 rcases (show x < y ∨ y < x ∨ x = y by omega) with h1 | h1 | h1
 ·have HZ : Hid (z = -1) := hid (by rw [← hz.out]; unfold cmp3; rw [if_pos h1])
  go_enter Tryz.func193, Tryz.ntmps193
  go_wp2_with fail
  (refine x_c H (isnan_any _ x) ?_; clear H; rintro e w1 ⟨rfl, hF⟩ H; clear hF)
  go_wp2_with fail
  (refine x_c H (isnan_any _ y) ?_; clear H; rintro e w1 ⟨rfl, hF⟩ H; clear hF)
  go_wp2_with (refine x_q H ?_)
  go_ret
  exact ⟨by rw [HZ.out]; rfl, H.fr⟩
 ·have HZ : Hid (z = 1) := hid (by rw [← hz.out]; unfold cmp3; rw [if_neg (by omega), if_pos h1])
  have h2 : ¬ x < y := by omega
  go_enter Tryz.func193, Tryz.ntmps193
  go_wp2_with fail
  (refine x_c H (isnan_any _ x) ?_; clear H; rintro e w1 ⟨rfl, hF⟩ H; clear hF)
  go_wp2_with fail
  (refine x_c H (isnan_any _ y) ?_; clear H; rintro e w1 ⟨rfl, hF⟩ H; clear hF)
  go_wp2_with (refine x_q H ?_)
  go_ret
  exact ⟨by rw [HZ.out]; rfl, H.fr⟩
 ·have HZ : Hid (z = 0) := hid (by rw [← hz.out, h1]; unfold cmp3; rw [if_neg (by omega), if_neg (by omega)])
  subst h1
  go_enter Tryz.func193, Tryz.ntmps193
  go_wp2_with fail
  (refine x_c H (isnan_any _ x) ?_; clear H; rintro e w1 ⟨rfl, hF⟩ H; clear hF)
  go_wp2_with fail
  (refine x_c H (isnan_any _ x) ?_; clear H; rintro e w1 ⟨rfl, hF⟩ H; clear hF)
  go_wp2_with (refine x_q H ?_)
  go_ret
  exact ⟨by rw [HZ.out]; rfl, H.fr⟩
theorem or_any (w : World) (a b : Int) {g : Nat} (ha : w.cell? ⟨g, 0, none⟩ = some (.int .i64 a)) (hb : w.cell? ⟨g, 1, none⟩ = some (.int .i64 b)) {z : Int} (hz : Hid ((if a = 0 then b else a) = z)) :
  Calls Tryz.prog 192 #[.slice (some ⟨g, 0, none⟩) 2 2] w fun e w' => e = .returned (.int .i64 z) ∧ Fr [] w w' := by
 have HA := hid ha
 have HB := hid hb
 clear ha hb
 have H := Hp.start [] w
 go_enter Tryz.func192, Tryz.ntmps192
 go_wp2_with fail
 go_loopw [8] (fun s8 wr => ∃ k : Nat, s8 = .int .i64 (k : Int) ∧ (k = 0 ∨ (k = 1 ∧ a = 0) ∨ (k = 2 ∧ a = 0 ∧ b = 0)) ∧ Hp [] w wr []) (fun v _ => 3 - (intOf v).toNat)
 case atStart => exact ⟨0, rfl, .inl rfl, H⟩
 case round =>
  clear H
  obtain ⟨k, rfl, hk, H⟩ := hrel
  rcases hk with rfl | ⟨rfl, h0⟩ | ⟨rfl, h0, h1⟩
  ·have hc := H.fr.cell HA.out (by simp)
   by_cases h0 : a = 0
   ·have HE : Hid (a = 0) := hid h0
    clear hz
    go_wp2_with (first | refine x_q H ?_ | refine x_e (c_ldc rfl rfl (by assumption)) ?_)
    go_roundw
    case rel => exact ⟨1, rfl, .inr (.inl ⟨rfl, HE.out⟩), H⟩
    case measure => (simp [intOf]; try omega)
   ·have HZ : Hid (z = a) := hid (by rw [← hz.out, if_neg h0])
    clear hz
    go_wp2_with (first | refine x_q H ?_ | refine x_e (c_ldc rfl rfl (by assumption)) ?_)
    go_ret
    exact ⟨by rw [HZ.out]; rfl, H.fr⟩
  ·have hc := H.fr.cell HB.out (by simp)
   have HZ : Hid (z = b) := hid (by rw [← hz.out, if_pos h0])
   have HE : Hid (a = 0) := hid h0
   clear h0 hz
   by_cases h1 : b = 0
   ·have HE2 : Hid (b = 0) := hid h1
    go_wp2_with (first | refine x_q H ?_ | refine x_e (c_ldc rfl rfl (by assumption)) ?_)
    go_roundw
    case rel => exact ⟨2, rfl, .inr (.inr ⟨rfl, HE.out, HE2.out⟩), H⟩
    case measure => (simp [intOf]; try omega)
   ·go_wp2_with (first | refine x_q H ?_ | refine x_e (c_ldc rfl rfl (by assumption)) ?_)
    go_ret
    exact ⟨by rw [HZ.out]; rfl, H.fr⟩
  ·have HZ : Hid (z = 0) := hid (by rw [← hz.out, if_pos h0, h1])
   clear h0 h1 hz
   go_wp2_with (refine x_q H ?_)
   go_ret
   exact ⟨by rw [HZ.out]; rfl, H.fr⟩
def cmpE (x y : En) : Int := if cmp3 x.2.1 y.2.1 = 0 then cmp3 x.1 y.1 else cmp3 x.2.1 y.2.1
theorem cmpE_neg (x y : En) : cmpE x y < 0 ↔ ltE x y := by
 unfold cmpE cmp3 ltE
 repeat' split
 all_goals omega
theorem run_slice2 (w : World) (a b : Int) : (Instr.buildSlice 29 2 #[(0, .int .i64 a), (1, .int .i64 b)]).run Tryz.prog w = .ok (.slice (some ⟨w.heap.size, 0, none⟩) 2 2) (w.alloc (.cells #[.int .i64 a, .int .i64 b] 3)) := by
 simp only [Instr.buildSlice, Sem.run_bind, run_underlying Tryz.underlying29, Result.andThen_ok, Tryz.sizeOf3, Tryz.zeroValue3, Sem.run_pure]
 rw [if_neg (by decide), if_neg (by decide)]
 have hf : Instr.fill (fun i => some (i * 1, 1)) (Array.map (fun x => (Value.int .i64 0).cells[x % (Value.int .i64 0).cells.size]!) (Array.range (2 * 1))) [(0, .int .i64 a), (1, .int .i64 b)] = some #[.int .i64 a, .int .i64 b] := by simp [Instr.fill, Value.cells, show Array.range 2 = #[0, 1] from rfl]
 simp only [Sem.run_bind, Sem.run_pure, Result.andThen_ok, Tryz.zeroValue3, hf, newRow, run_newObj]
 rfl
theorem g_sl2 {Q : Exit → Act → World → Prop} {a : Act} {w w0 : World} {o : Oper} {K : Act → World → Prop} {T : List Nat} {l : List Ent} (H : Hp T w0 w l) {x y : Operand} (ho : o.op = .buildSlice 29 2 #[(0, x), (1, y)]) {m n : Int} (hx : a.eval x = .int .i64 m) (hy : a.eval y = .int .i64 n)
  (h : ∀ g w', w0.heap.size ≤ g ∧ w.heap.size ≤ g → Fr [] w w' → Hp T w0 w' (.blk g [.int .i64 m, .int .i64 n] 3 :: l) → K (a.put o.dst (.slice (some ⟨g, 0, none⟩) 2 2)) w') : o.wp Tryz.prog a w K Q := by
 refine wp_of_run ?_ (h _ _ ⟨H.fr.size, Nat.le_refl _⟩ (Fr.alloc [] w _) (H.alloc [.int .i64 m, .int .i64 n] 3))
 unfold execOp
 simp only [ho, List.map_toArray, List.map_cons, List.map_nil, hx, hy, Sem.run_bind, run_slice2, Result.andThen_ok, Sem.run_pure]
theorem srt_any (w : World) (x y : En) {z : Int} (hz : Hid (cmpE x y = z)) : Calls Tryz.prog 191 #[.agg (eC x).toArray, .agg (eC y).toArray] w fun e w' => e = .returned (.int .i64 z) ∧ Fr [] w w' := by
 have H := Hp.start [] w
 obtain ⟨i, j, f⟩ := x
 obtain ⟨k, l, d⟩ := y
 unfold eC
 obtain ⟨c1, h1⟩ : ∃ c, cmp3 (j : Int) (l : Int) = c := ⟨_, rfl⟩
 obtain ⟨c2, h2⟩ : ∃ c, cmp3 (i : Int) (k : Int) = c := ⟨_, rfl⟩
 have HZ : Hid ((if c1 = 0 then c2 else c1) = z) := hid (by rw [← hz.out]; unfold cmpE; rw [← h1, ← h2])
 have H1 := hid h1
 have H2 := hid h2
 clear h1 h2 hz
 go_enter Tryz.func191, Tryz.ntmps191
 go_wp2_with (revert H; refine x_g ?_; intro g1 w1 hg hf H; replace hf := hf.kp)
 (revert H; refine w_p 13 (.st 0 (.st 1 (.st 2 (.st 3 (.st 5 (.st 6 (.st 7 (.st 8 (.ld 4 (.ld 9 (.ld 10 (.ld 11 (.st 12 .done))))))))))))) ?_; intro w1 H)
 iterate 8 refine p_q ?_
 ((refine p_c H rfl rfl Tryz.func193 (compareI_any _ _ _ H1) ?_; clear H; rintro e w1 ⟨rfl, hF⟩ H; refine p_r ?_; clear hF))
 ((refine p_c H rfl rfl Tryz.func193 (compareI_any _ _ _ H2) ?_; clear H; rintro e w1 ⟨rfl, hF⟩ H; refine p_r ?_; clear hF))
 (revert H; refine p_g (he := fun H K hK => g_sl2 H rfl rfl rfl hK) ?_; intro g w1 hg hf H; (first | replace hf := hf.kp | clear hf))
 ((refine p_c H rfl rfl Tryz.func192 (or_any _ c1 c2 (H.blkCell (.head _) rfl) (H.blkCell (.head _) rfl) HZ) ?_; clear H; rintro e w1 ⟨rfl, hF⟩ H; refine p_r ?_; clear hF))
 refine p_q ?_
 (refine pl_done ?_)
 all_goals
  go_wp2_with fail
  go_ret
  exact ⟨rfl, H.fr⟩
end Go.Proofs.YtbiohhmpclnpgaaGreatDoor
