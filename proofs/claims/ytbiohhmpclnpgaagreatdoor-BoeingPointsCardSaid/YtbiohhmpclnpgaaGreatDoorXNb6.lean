import Derived.Test.YtbiohhmpclnpgaaGreatDoorXMd4
import Derived.Test.YtbiohhmpclnpgaaGreatDoorXSx
import Derived.Test.YtbiohhmpclnpgaaGreatDoorXNb4
import Derived.Test.YtbiohhmpclnpgaaGreatDoorXNb3
import Derived.Test.YtbiohhmpclnpgaaGreatDoorXPd1
import Derived.Test.YtbiohhmpclnpgaaGreatDoorXMb4
namespace Go.Proofs.YtbiohhmpclnpgaaGreatDoor
open Go.RowKit
set_option linter.unusedSimpArgs false
set_option linter.unusedVariables false
set_option maxHeartbeats 8000000
set_option maxRecDepth 100000
attribute [local irreducible] wpList Code.wp Plan.wp stsE mixE pre cntE
def CelR (w : World) (p : Option Addr) (cs : List Value) : Prop := ∀ j u, cs[j]? = some u → ∃ g, p = some ⟨g, 0, none⟩ ∧ w.cell? ⟨g, j, none⟩ = some u
theorem CelR.of {w : World} {p : Option Addr} {cs : List Value} {e : TypeId} {n c sz : Nat} {S : List Nat} (h : RowAt e sz (.slice p n c) n cs S w) : CelR w p cs := by
 intro j u hj
 have hn : 0 < n := by
  rcases Nat.eq_zero_or_pos n with h0 | h0
  ·exfalso
   have := h.1
   rw [h0, Nat.zero_mul] at this
   rw [List.eq_nil_of_length_eq_zero this] at hj
   simp at hj
  ·exact h0
 obtain ⟨g, c', he, _⟩ := h.some hn
 cases he
 exact ⟨g, rfl, h.cell hj⟩
theorem CelR.fr {w w' : World} {p : Option Addr} {cs : List Value} (h : CelR w p cs) (k : Fr [] w w') : CelR w' p cs := by
 intro j u hj
 obtain ⟨g, hg, hc⟩ := h j u hj
 exact ⟨g, hg, k.cell hc (by simp)⟩
theorem CelR.at {w : World} {g : Nat} {cs : List Value} (h : CelR w (some ⟨g, 0, none⟩) cs) {j : Nat} {u : Value} (hj : cs[j]? = some u) : w.cell? ⟨g, j, none⟩ = some u := by
 obtain ⟨g', hg, hc⟩ := h j u hj
 cases hg
 exact hc
theorem CelR.some {w : World} {p : Option Addr} {cs : List Value} (h : CelR w p cs) (hn : 0 < cs.length) : ∃ g, p = some ⟨g, 0, none⟩ := by
 obtain ⟨g, hg, _⟩ := h 0 _ (List.getElem?_eq_getElem hn)
 exact ⟨g, hg⟩
theorem issorted_any (w : World) {p : Option Addr} {n c : Nat} (xs : List Nat) (hn : xs.length = n) (h1 : 1 ≤ n) (hn2 : n ≤ 100000) (hs : xs.Pairwise (· ≤ ·)) (hR : CelR w p (xs.map iV)) :
  Calls Tryz.prog 71 #[.slice p n c] w fun e w' => e = .returned (.bool true) ∧ Fr [] w w' := by
 obtain ⟨g, rfl⟩ := hR.some (by rw [List.length_map]; omega)
 have HR := hid hR
 have HS := hid hs
 have HN := hid hn
 clear hR hs hn
 have H := Hp.start [] w
 go_enter Tryz.func71, Tryz.ntmps71
 go_wp2_with fail
 go_loopw [3] (fun s3 wr => ∃ z : Int, s3 = .int .i64 z ∧ 0 ≤ z ∧ z < n ∧ Hp [] w wr []) (fun v _ => (intOf v).toNat)
 case atStart => exact ⟨(n : Int) - 1, rfl, by omega, by omega, H⟩
 case round =>
  clear H
  obtain ⟨z, rfl, hz0, hzn, H⟩ := hrel
  by_cases hlt : 0 < z
  ·obtain ⟨i, hi⟩ : ∃ i : Nat, z = ((i + 1 : Nat) : Int) := ⟨(z - 1).toNat, by omega⟩
   have HZ := hid hi
   have HZ1 := hid (show z - 1 = (i : Int) by omega)
   have hin : i + 1 < n := by omega
   clear hi
   obtain ⟨x, hx⟩ : ∃ x, xs[i]? = some x := ⟨_, List.getElem?_eq_getElem (by rw [HN.out]; omega)⟩
   obtain ⟨y, hy⟩ : ∃ x, xs[i + 1]? = some x := ⟨_, List.getElem?_eq_getElem (by rw [HN.out]; omega)⟩
   have hxy : x ≤ y := by
    have e1 := List.getElem?_eq_some_iff.1 hx
    have e2 := List.getElem?_eq_some_iff.1 hy
    have := List.pairwise_iff_getElem.1 HS.out i (i + 1) e1.1 e2.1 (by omega)
    rw [e1.2, e2.2] at this
    exact this
   have HX := hid (HR.out.at (show (xs.map iV)[i]? = some (.int .i64 (x : Int)) by rw [List.getElem?_map, hx]; rfl))
   have HY := hid (HR.out.at (show (xs.map iV)[i + 1]? = some (.int .i64 (y : Int)) by rw [List.getElem?_map, hy]; rfl))
   have HB := hid (show decide ((y : Int) < (x : Int)) = false by simp; omega)
   clear hx hy
   go_wp2_with (refine x_q H ?_)
   (revert H; refine w_p 9 (.st 0 (.st 1 (.st 2 (.st 3 (.st 4 (.st 5 (.st 6 (.st 7 (.st 8 (.ld 9 .done)))))))))) ?_; intro w1 H)
   iterate 2 refine p_q ?_
   (refine p_e rfl (fun w H => ev_ixE (i + 1) (i + 1) rfl rfl rfl HZ) ?_)
   (refine p_e rfl (fun w H => c_ldc rfl rfl (H.fr.cell HY.out (by simp))) ?_)
   iterate 3 refine p_q ?_
   (refine p_e rfl (fun w H => ev_ixE i i rfl rfl rfl HZ1) ?_)
   (refine p_e rfl (fun w H => c_ldc rfl rfl (H.fr.cell HX.out (by simp))) ?_)
   ((refine p_c H rfl rfl Tryz.func116 (less_any _ y x HB) ?_; clear H; rintro e w1 ⟨rfl, hF⟩ H; refine p_r ?_; clear hF))
   (refine pl_done ?_)
   go_wp2_with fail
   go_roundw
   case rel => exact ⟨z - 1, rfl, by omega, by omega, H⟩
   case measure => (simp [intOf]; try omega)
  ·go_wp2_with (refine x_q H ?_)
   go_ret
   exact ⟨rfl, H.fr⟩
end Go.Proofs.YtbiohhmpclnpgaaGreatDoor
namespace Go.Proofs.YtbiohhmpclnpgaaGreatDoor
open Go.RowKit
set_option linter.unusedSimpArgs false
set_option linter.unusedVariables false
def EmpAt (m : Nat) (S : List Nat) (w : World) : Prop := S = [m] ∧ ∃ clk, w.heap[m]? = some (.map #[] clk)
theorem EmpAt.firm {m : Nat} {S : List Nat} : Firm S (EmpAt m S) := by
 refine ⟨fun w w' R k hn h => ?_, fun w h x hx => ?_, fun w h => ?_⟩
 ·obtain ⟨rfl, clk, h2⟩ := h
  exact ⟨rfl, clk, k.get h2 (hn m (by simp))⟩
 ·obtain ⟨rfl, clk, h2⟩ := h
  simp only [List.mem_singleton] at hx; subst hx; exact lt_of_get h2
 ·obtain ⟨rfl, _⟩ := h; simp
section
variable {P : Program} {Q : Exit → Act → World → Prop} {a : Act} {w w0 : World} {o : Oper} {K : Act → World → Prop} {T : List Nat} {l : List Ent}
theorem run_keyI (w : World) (em : Bool) (z : Int) : (Instr.checkKey em 10000 3 (.int .i64 z)).run Tryz.prog w = .ok () w := by
 show (Instr.checkKey em (9999 + 1) 3 (.int .i64 z)).run _ _ = _
 unfold Instr.checkKey
 simp only [Sem.run_bind, run_underlying Tryz.underlying3, Result.andThen_ok, Sem.run_pure]
theorem run_findI (w : World) (z : Int) : (Instr.findKey 3 (.int .i64 z) []).run Tryz.prog w = .ok none w := by
 unfold Instr.findKey
 simp only [Sem.run_bind, run_underlying Tryz.underlying3, Result.andThen_ok]
 rfl
theorem c_lookE {m k : Nat} {S : List Nat} (H : Hp T w0 w l) (hm : Ent.obj k S (EmpAt m S) ∈ l) {x y : Operand} (ho : o.op = .lookup 129 x y false) (hx : a.eval x = .map (some m)) {z : Int} (hy : a.eval y = .int .i64 z) :
  (execOp a.eval o).run Tryz.prog w = .ok (.value (.bool false)) w := by
 obtain ⟨rfl, clk, h2⟩ := (H.ok _ hm).1
 have hz : (zeroValue 4).run Tryz.prog w = .ok (.bool false) w := Tryz.zeroValue4 w
 have hob : (getObj m).run Tryz.prog w = .ok (.map #[] clk) w := by simp [getObj, Sem.run, h2]
 have e : (Instr.lookup 129 (.map (some m)) (.int .i64 z) false).run Tryz.prog w = .ok (.bool false) w := by
  unfold Instr.lookup
  simp only [Sem.run_bind, run_underlying Tryz.underlying129, Result.andThen_ok, hob, Sem.run_pure, run_keyI, run_findI]
  simp [hz]
 unfold execOp
 simp only [ho, hx, hy, Sem.run_bind, e, Result.andThen_ok, Sem.run_pure]
theorem c_updE {m k : Nat} {S : List Nat} (H : Hp T w0 w (.obj k S (EmpAt m S) :: l)) {x y : Operand} (ho : o.op = .mapUpdate 129 x y (.const (.bool true))) (hx : a.eval x = .map (some m)) {z : Int} (hy : a.eval y = .int .i64 z)
  (h : ∀ w', Fr S w w' → Hp T w0 w' l → K (a.put o.dst undef) w') : o.wp Tryz.prog a w K Q := by
 obtain ⟨rfl, clk, h2⟩ := (H.ok _ (.head _)).1
 have hob : (getObj m).run Tryz.prog w = .ok (.map #[] clk) w := by simp [getObj, Sem.run, h2]
 have e : (Instr.mapUpdate 129 (.map (some m)) (.int .i64 z) (.bool true)).run Tryz.prog w = .ok () ({ w with heap := w.heap.setIfInBounds m (.map (#[].push { key := .int .i64 z, val := .bool true, born := clk }) (clk + 1)) } : World) := by
  unfold Instr.mapUpdate
  simp only [Sem.run_bind, run_underlying Tryz.underlying129, Result.andThen_ok, hob, Sem.run_pure, run_keyI, run_findI]
  simp [setObj, Sem.run, h2]
 have hF : Fr [m] w ({ w with heap := w.heap.setIfInBounds m (.map (#[].push { key := .int .i64 z, val := .bool true, born := clk }) (clk + 1)) } : World) :=
  ⟨rfl, rfl, rfl, by simp, fun k _ hn => Array.getElem?_setIfInBounds_ne (fun e => hn (by simp [e]))⟩
 have hS := (H.ok _ (.head _)).2.2
 have hd : ∀ x ∈ [m], x ∉ l.flatMap Ent.own := fun x hx hm => by
  have hn := H.nodup
  rw [List.flatMap_cons] at hn
  exact (List.nodup_append.1 hn).2.2 x hx x hm rfl
 have H1 : Hp T w0 _ l := ⟨H.fr.andThen hF hS, fun e he => Ent.stay (H.ok e (.tail _ he)) hF (fun x hx hm => hd x hm (List.mem_flatMap.2 ⟨e, he, hx⟩)), by
  have hn := H.nodup
  rw [List.flatMap_cons] at hn
  exact (List.nodup_append.1 hn).2.1⟩
 have ec : a.eval (.const (.bool true)) = .bool true := rfl
 refine wp_of_skip ?_ (h _ hF H1)
 unfold execOp; simp only [ho, hx, hy, ec, Sem.run_bind, e, Result.andThen_ok, Sem.run_pure]
theorem c_mmE (H : Hp T w0 w l) (k : Nat) (ho : o.op = .makeMap 129 none)
  (h : ∀ m w', Fr [] w w' → Hp T w0 w' (.obj k [m] (EmpAt m [m]) :: l) → K (a.put o.dst (.map (some m))) w') : o.wp P a w K Q := by
 have hF : Fr [] w (w.alloc (.map #[] 0)) := Fr.alloc [] w _
 refine wp_of_run (v := .map (some w.heap.size)) ?_ (h w.heap.size _ hF (H.born k hF ⟨rfl, 0, heap_alloc_new w _⟩ EmpAt.firm (by simp)))
 unfold execOp
 simp [ho, Instr.makeMap, newObj, Sem.run]
end
end Go.Proofs.YtbiohhmpclnpgaaGreatDoor
namespace Go.Proofs.YtbiohhmpclnpgaaGreatDoor
open Go.RowKit
set_option linter.unusedSimpArgs false
set_option linter.unusedVariables false
set_option maxHeartbeats 8000000
set_option maxRecDepth 100000
attribute [local irreducible] wpList Code.wp Plan.wp
theorem ev_mulZ {P : Program} {a : Act} {w : World} {o : Oper} {t t' : TypeId} {x y : Operand} (ho : o.op = .binOp .mul t x y t') {m n : Int} (z : Int) (hx : a.eval x = .int .i64 m) (hy : a.eval y = .int .i64 n) (hz : Hid (m * n = z)) (hr : inr .i64 z := by simp only [inr]; omega) : (execOp a.eval o).run P w = .ok (.value (.int .i64 z)) w := by
 have hz := hz.out
 subst hz
 exact ev_mul ho hx hy hr
theorem ev_quoZ {P : Program} {a : Act} {w : World} {o : Oper} {t t' : TypeId} {x y : Operand} (ho : o.op = .binOp .quo t x y t') {m n : Int} (z : Int) (hx : a.eval x = .int .i64 m) (hy : a.eval y = .int .i64 n) (h0 : 0 ≤ m) (h1 : 0 < n) (hz : Hid (m / n = z)) (hr : inr .i64 z := by simp only [inr]; omega) : (execOp a.eval o).run P w = .ok (.value (.int .i64 z)) w := by
 have hz := hz.out
 subst hz
 exact ev_quo ho hx hy h0 h1 hr
theorem sound_any (w : World) (c wd : Nat) (p s : Int) (hc : c ≤ 999) (hw : wd ≤ 999) {p' s' : Nat} {b : Bool} (hb : Hid (soundP ⟨c, wd, p', s'⟩ = b)) :
  Calls Tryz.prog 108 #[.agg #[.int .i64 (c : Int), .int .i64 (wd : Int), .int .i64 p, .int .i64 s]] w fun e w' => e = .returned (.bool b) ∧ Fr [] w w' := by
 obtain ⟨q, hq⟩ : ∃ q, c * wd = q := ⟨_, rfl⟩
 have HB := hid (show b = decide (1 ≤ c ∧ 1 ≤ wd ∧ q ≤ 512) by rw [← hb.out, ← hq]; rfl)
 have hq2 : q ≤ 998001 := by rw [← hq]; exact Nat.mul_le_mul hc hw
 have HQ := hid (show (c : Int) * (wd : Int) = (q : Int) by rw [← hq]; exact (Int.natCast_mul c wd).symm)
 clear hq hb
 have H := Hp.start [] w
 rcases Nat.lt_or_ge c 1 with h1 | h1
 ·have HB2 := hid (show b = false by rw [HB.out]; exact decide_eq_false (by omega))
  clear HB
  go_enter Tryz.func108, Tryz.ntmps108
  go_wp2_with (first | refine x_q H ?_ | refine x_cm (fun h => ?_) (fun h => ?_) | refine x_l H ?_ | (revert H; refine x_g ?_; intro g w1 hg hf H; replace hf := hf.kp) | (revert H; refine x_s ?_; intro w1 hf H; clear hf))
  go_ret
  exact ⟨by rw [HB2.out]; rfl, H.fr⟩
 ·rcases Nat.lt_or_ge wd 1 with h2 | h2
  ·have HB2 := hid (show b = false by rw [HB.out]; exact decide_eq_false (by omega))
   clear HB
   go_enter Tryz.func108, Tryz.ntmps108
   go_wp2_with (first | refine x_q H ?_ | refine x_cm (fun h => ?_) (fun h => ?_) | refine x_l H ?_ | (revert H; refine x_g ?_; intro g w1 hg hf H; replace hf := hf.kp) | (revert H; refine x_s ?_; intro w1 hf H; clear hf))
   go_ret
   exact ⟨by rw [HB2.out]; rfl, H.fr⟩
  ·rcases Nat.lt_or_ge 512 q with h3 | h3
   ·have HB2 := hid (show b = false by rw [HB.out]; exact decide_eq_false (by omega))
    clear HB
    go_enter Tryz.func108, Tryz.ntmps108
    go_wp2_with (first | refine x_e (ev_mulZ rfl (q : Int) rfl rfl HQ) ?_ | refine x_q H ?_ | refine x_cm (fun h => ?_) (fun h => ?_) | refine x_l H ?_ | (revert H; refine x_g ?_; intro g w1 hg hf H; replace hf := hf.kp) | (revert H; refine x_s ?_; intro w1 hf H; clear hf))
    go_ret
    exact ⟨by rw [HB2.out]; rfl, H.fr⟩
   ·have HB2 := hid (show b = true by rw [HB.out]; exact decide_eq_true (by omega))
    clear HB
    go_enter Tryz.func108, Tryz.ntmps108
    go_wp2_with (first | refine x_e (ev_mulZ rfl (q : Int) rfl rfl HQ) ?_ | refine x_q H ?_ | refine x_cm (fun h => ?_) (fun h => ?_) | refine x_l H ?_ | (revert H; refine x_g ?_; intro g w1 hg hf H; replace hf := hf.kp) | (revert H; refine x_s ?_; intro w1 hf H; clear hf))
    go_ret
    exact ⟨by rw [HB2.out]; rfl, H.fr⟩
theorem linesF_any (w : World) (c wd p s n : Int) (hn : 1 ≤ n) (hc : n ≤ c) (hc2 : c ≤ 999) :
  Calls Tryz.prog 112 #[.agg #[.int .i64 c, .int .i64 wd, .int .i64 p, .int .i64 s], .int .i64 n] w fun e w' => e = .returned (.int .i64 1) ∧ Fr [] w w' := by
 have HQ := hid (show (n + c - 1) / c = 1 by
  rw [Int.ediv_eq_iff_of_pos (by omega)]
  omega)
 have h0 : 0 ≤ n + c - 1 := by omega
 have h1 : 0 < c := by omega
 have H := Hp.start [] w
 go_enter Tryz.func112, Tryz.ntmps112
 go_wp2_with (first | refine x_e (ev_quoZ rfl 1 rfl rfl h0 h1 HQ) ?_ | refine x_q H ?_ | refine x_cm (fun h => ?_) (fun h => ?_) | refine x_l H ?_ | (revert H; refine x_g ?_; intro g w1 hg hf H; replace hf := hf.kp) | (revert H; refine x_s ?_; intro w1 hf H; clear hf))
 go_ret
 exact ⟨rfl, H.fr⟩
theorem pattern_any (w : World) (cs : List Value) (hl : cs.length = 21) (h8 : cs[8]? = some (strV sRUA)) :
  Calls Tryz.prog 25 #[.agg cs.toArray] w fun e w' => e = .returned (.bool false) ∧ Fr [] w w' := by
 obtain ⟨b, hk, hb⟩ : ∃ b, sRUA[0]? = some b ∧ b.toNat = 82 := ⟨82, rfl, rfl⟩
 have H := Hp.start [] w
 go_enter Tryz.func25, Tryz.ntmps25
 go_wp2_with (first | refine x_e (ev_strIdx rfl rfl rfl (by decide) hk) ?_ | refine x_q H ?_ | refine x_cm (fun h => ?_) (fun h => ?_) | refine x_l H ?_ | (revert H; refine x_g ?_; intro g w1 hg hf H; replace hf := hf.kp) | (revert H; refine x_s ?_; intro w1 hf H; clear hf))
 go_ret
 exact ⟨rfl, H.fr⟩
theorem symmetry_any (w : World) (cs : List Value) (hl : cs.length = 21) (h8 : cs[8]? = some (strV sRUA)) :
  Calls Tryz.prog 31 #[.agg cs.toArray] w fun e w' => e = .returned (.int .i64 0) ∧ Fr [] w w' := by
 obtain ⟨b, hk, hb⟩ : ∃ b, sRUA[1]? = some b ∧ b.toNat = 85 := ⟨85, rfl, rfl⟩
 have H := Hp.start [] w
 go_enter Tryz.func31, Tryz.ntmps31
 go_wp2_with (first | refine x_e (ev_strIdx rfl rfl rfl (by decide) hk) ?_ | refine x_q H ?_ | refine x_cm (fun h => ?_) (fun h => ?_) | refine x_l H ?_ | (revert H; refine x_g ?_; intro g w1 hg hf H; replace hf := hf.kp) | (revert H; refine x_s ?_; intro w1 hf H; clear hf))
 go_ret
 exact ⟨rfl, H.fr⟩
theorem kinds_has : Go.Lib.containsS ((([sRUA, [82, 83, 65], [82, 90, 65], [82, 82, 65], [80, 85, 65], [80, 83, 65], [80, 82, 65]] : List (List UInt8)).map fun s => ByteArray.mk s.toArray).take 7) ⟨sRUA.toArray⟩ = true := by decide +kernel
theorem supported_any (w : World) : Calls Tryz.prog 63 #[strV sRUA] w fun e w' => e = .returned (.bool true) ∧ Fr [] w w' := by
 have H := Hp.start [] w
 go_enter Tryz.func63, Tryz.ntmps63
 go_wp2_with (first | (refine is_buildSlice rfl ?_; refine wl_rw rfl (fun K hK => c_sN H rfl (by repeat first | exact .nil _ | apply Parts.tmp (by rfl) (by rfl) | apply Parts.con (by rfl)) rfl (by intro c hc; simp only [List.mem_cons, List.not_mem_nil, or_false] at hc; (try (rcases hc with rfl | rfl | rfl | rfl | rfl | rfl | rfl | rfl <;> rfl))) (by decide) (by decide) (fun g w1 hg hf H1 => hK _ _ ?_)); (clear hK K); (clear H; have H := H1; clear H1; (try dsimp only at H); (first | replace hf := hf.kp | clear hf)); (simp only [nrm, ↓reduceIte, Nat.reduceAdd])) | refine x_q H ?_ | refine x_cm (fun h => ?_) (fun h => ?_) | refine x_l H ?_ | (revert H; refine x_g ?_; intro g w1 hg hf H; replace hf := hf.kp) | (revert H; refine x_s ?_; intro w1 hf H; clear hf))
 refine Calls.mono (Tryz.slices_Contains_string g 0 7 7 (([sRUA, [82, 83, 65], [82, 90, 65], [82, 82, 65], [80, 85, 65], [80, 83, 65], [80, 82, 65]] : List (List UInt8)).map fun s => ByteArray.mk s.toArray) ⟨sRUA.toArray⟩ _ (by decide) (by decide) ?_) ?_
 ·intro j hj
  rw [Nat.zero_add]
  refine H.blkCell (.head _) ?_
  have : j < 7 := hj
  rcases j with _ | _ | _ | _ | _ | _ | _ | j <;> first | rfl | omega
 rintro e w1 ⟨rfl, rfl⟩
 rw [kinds_has]
 go_wp2_with (first | refine x_q H ?_ | refine x_cm (fun h => ?_) (fun h => ?_) | refine x_l H ?_ | (revert H; refine x_g ?_; intro g w1 hg hf H; replace hf := hf.kp) | (revert H; refine x_s ?_; intro w1 hf H; clear hf))
 go_ret
 exact ⟨rfl, H.fr⟩
end Go.Proofs.YtbiohhmpclnpgaaGreatDoor
namespace Go.Proofs.YtbiohhmpclnpgaaGreatDoor
open Go.RowKit
set_option linter.unusedSimpArgs false
set_option linter.unusedVariables false
set_option maxHeartbeats 8000000
set_option maxRecDepth 100000
attribute [local irreducible] wpList Code.wp Plan.wp
def colC (c : Nat × Nat) : List Value := [iV c.1, iV c.2]
theorem pre_col : ∀ {cols : List (Nat × Nat)} {k : Nat} {x : Nat × Nat}, cols[k]? = some x → colC x <+: (cols.flatMap colC).drop (k * 2)
 | [], k, x, h => by simp at h
 | c :: cols, 0, x, h => by
  have e : c = x := by simpa using h
  rw [e, Nat.zero_mul, List.drop_zero, List.flatMap_cons]
  exact List.prefix_append _ _
 | c :: cols, k + 1, x, h => by
  have ih := pre_col (cols := cols) (k := k) (x := x) (by simpa using h)
  rw [List.flatMap_cons, show (k + 1) * 2 = k * 2 + 1 + 1 by omega]
  exact ih
theorem cnts_at : ∀ {l : List UInt8} {cols : List (Nat × Nat)} {L : List Nat}, cntsP l cols = some L → L.length = cols.length ∧ ∀ (k : Nat) (c : Nat × Nat), cols[k]? = some c → ∃ n, L[k]? = some n ∧ cntP (blank (part c.1 c.2 l)) = (n, true)
 | l, [], L, h => by
  cases h
  exact ⟨rfl, fun k c h => by simp at h⟩
 | l, (a, b) :: cols, L, h => by
  unfold cntsP at h
  split at h
  ·rename_i hc
   obtain ⟨M, hM, rfl⟩ := Option.map_eq_some_iff.1 h
   obtain ⟨h1, h2⟩ := cnts_at hM
   refine ⟨by simp [h1], fun k c hk => ?_⟩
   cases k with
   | zero =>
    have e : (a, b) = c := by simpa using hk
    subst e
    exact ⟨_, rfl, by rw [← hc]⟩
   | succ k => exact h2 k c (by simpa using hk)
  ·cases h
theorem counts_any (w : World) (s : List UInt8) (hs : s.length ≤ 4000000) (cols : List (Nat × Nat)) {b n c : Nat} (hn : cols.length = n) (hn2 : n ≤ 100) (hle : ∀ c ∈ cols, c.1 ≤ c.2) (hb : b < w.heap.size) (hc : ∀ j u, (cols.flatMap colC)[j]? = some u → w.cell? ⟨b, 0 + j, none⟩ = some u) {L : List Nat} (hL : Hid (cntsP s cols = some L)) :
  Calls Tryz.prog 61 #[strV s, .slice (some ⟨b, 0, none⟩) n c] w fun e w' => ∃ v, e = .returned (.tuple #[v, .bool true]) ∧ Fr [] w w' ∧ w'.ownsRow w.heap.size 3 1 v n (L.map iV) := by
 subst hn
 have HLE := hid hle
 have HAT := hid (cnts_at hL.out)
 have H := ((Hp.start [] w).pushRng (b := b) (off := 0) (cs := cols.flatMap colC) hb (by simp) hc).newRow 1 (e := 3) (sz := 1)
 clear hle hb hc hL
 go_enter Tryz.func61, Tryz.ntmps61
 go_wp2_with (first | refine x_q H ?_ | refine x_cm (fun h => ?_) (fun h => ?_) | refine x_l H ?_ | refine x_e (ev_strLen rfl rfl) ?_ | (revert H; refine x_g ?_; (first | (have hh := g3; clear hh; intro g4 w1 hg hf H) | (have hh := g2; clear hh; intro g3 w1 hg hf H) | (have hh := g1; clear hh; intro g2 w1 hg hf H) | (have hh := g0; clear hh; intro g1 w1 hg hf H) | intro g0 w1 hg hf H); (first | replace hf := hf.kp | clear hf)) | (revert H; refine x_s ?_; intro w1 hf H; (first | replace hf := hf.kp | clear hf)) | (revert H; refine x_sF ?_; intro w1 hf H hk; clear hf hk))
 go_loopw [6, 13] (fun s6 s13 wr => ∃ (k : Nat) (p : Option Addr) (c : Nat) (S : List Nat), s6 = .slice p k c ∧ s13 = .int .i64 (k : Int) ∧ k ≤ cols.length ∧ Hp [] w wr [.obj 1 S (RowAt 3 1 (.slice p k c) k ((L.take k).map iV) S), .rng b 0 (cols.flatMap colC)]) (fun _ v _ => cols.length - (intOf v).toNat)
 case atStart => exact ⟨0, none, 0, [], rfl, rfl, Nat.zero_le _, H⟩
 case round =>
  clear H
  obtain ⟨k, p, cp, S, rfl, rfl, hk, H⟩ := hrel
  by_cases hlt : k < cols.length
  ·obtain ⟨⟨x, y⟩, hx⟩ : ∃ x, cols[k]? = some x := ⟨_, List.getElem?_eq_getElem hlt⟩
   have hxy : x ≤ y := HLE.out _ (List.mem_of_getElem? hx)
   obtain ⟨m, hm, hcn⟩ := HAT.out.2 k _ hx
   have HCN := hid hcn
   have HT := hid (tk_snoc hm)
   have hpre : [.int .i64 (x : Int), .int .i64 (y : Int)] <+: (cols.flatMap colC).drop (k * 2) := pre_col hx
   clear hx hcn hm
   go_wp2_with (first | refine x_q H ?_ | refine x_cm (fun h => ?_) (fun h => ?_) | refine x_l H ?_ | refine x_e (ev_strLen rfl rfl) ?_ | (revert H; refine x_g ?_; (first | (have hh := g3; clear hh; intro g4 w1 hg hf H) | (have hh := g2; clear hh; intro g3 w1 hg hf H) | (have hh := g1; clear hh; intro g2 w1 hg hf H) | (have hh := g0; clear hh; intro g1 w1 hg hf H) | intro g0 w1 hg hf H); (first | replace hf := hf.kp | clear hf)) | (revert H; refine x_s ?_; intro w1 hf H; (first | replace hf := hf.kp | clear hf)) | (revert H; refine x_sF ?_; intro w1 hf H hk; clear hf hk))
   refine x_c H (count_any _ s hs x y hxy) ?_
   clear H
   rintro e w1 ⟨n', o', rfl, hF, hc2⟩ H
   clear hF
   rw [HCN.out] at hc2
   cases hc2
   go_wp2_with (first | (refine is_blt (b := .append) rfl ?_; go_loud (refine wl_rw rfl (fun K hK => c_aprS H rfl rfl rfl 1 (H.rd (b := g1) (off := 0) (vs := [iV m]) List.prefix_rfl) rfl (by simp [Value.oneCell', iV]) (by omega) (by unfold maxLen; omega) (fun p1 c1 w1 S' hf H1 => hK _ _ ?_))); (clear hK K); (clear H; have H := H1; clear H1; (try dsimp only at H); (first | replace hf := hf.kp | clear hf)); (simp only [nrm, ↓reduceIte, Nat.reduceAdd])) | refine x_q H ?_ | refine x_cm (fun h => ?_) (fun h => ?_) | refine x_l H ?_ | refine x_e (ev_strLen rfl rfl) ?_ | (revert H; refine x_g ?_; (first | (have hh := g3; clear hh; intro g4 w1 hg hf H) | (have hh := g2; clear hh; intro g3 w1 hg hf H) | (have hh := g1; clear hh; intro g2 w1 hg hf H) | (have hh := g0; clear hh; intro g1 w1 hg hf H) | intro g0 w1 hg hf H); (first | replace hf := hf.kp | clear hf)) | (revert H; refine x_s ?_; intro w1 hf H; (first | replace hf := hf.kp | clear hf)) | (revert H; refine x_sF ?_; intro w1 hf H hk; clear hf hk))
   go_roundw
   case rel =>
    refine ⟨k + 1, _, _, S', rfl, rfl, by omega, ?_⟩
    rw [HT.out, List.map_append]
    exact H.arr (by repeat (first | exact Pm.nil _ | (apply Pm.cons; · (repeat first | exact Rm.here _ | apply Rm.there))))
   case measure => (simp [intOf]; try omega)
  ·obtain rfl : k = cols.length := by omega
   have HT := hid (show L.take cols.length = L by rw [← HAT.out.1, List.take_length])
   rw [HT.out] at H
   go_wp2_with (first | refine x_q H ?_ | refine x_cm (fun h => ?_) (fun h => ?_) | refine x_l H ?_ | refine x_e (ev_strLen rfl rfl) ?_ | (revert H; refine x_g ?_; (first | (have hh := g3; clear hh; intro g4 w1 hg hf H) | (have hh := g2; clear hh; intro g3 w1 hg hf H) | (have hh := g1; clear hh; intro g2 w1 hg hf H) | (have hh := g0; clear hh; intro g1 w1 hg hf H) | intro g0 w1 hg hf H); (first | replace hf := hf.kp | clear hf)) | (revert H; refine x_s ?_; intro w1 hf H; (first | replace hf := hf.kp | clear hf)) | (revert H; refine x_sF ?_; intro w1 hf H hk; clear hf hk))
   go_ret2
   exact ⟨_, rfl, H.fr, (H.rowo 1).owns (fun x hx => (H.home 1 x hx).resolve_left (by simp))⟩
theorem indexAny_any (w : World) (s ls : List UInt8) (hs : s.length ≤ 4000000) (hl : ls.length ≤ 10) (ha : asc s = true) (hb : asc ls = true) {z : Int} (hz : Hid (Lib.indexAny s ls = z)) :
  Calls Tryz.prog 84 #[strV s, strV ls] w fun e w' => e = .returned (.int .i64 z) ∧ Fr [] w w' := by
 have key : ∀ {r : List UInt8}, asc r = true → ∀ (j : Nat) b, (ByteArray.mk r.toArray).data.toList[j]? = some b → b.toNat < 128 := by
  intro r hr j b hj
  unfold asc at hr
  rw [List.all_eq_true] at hr
  have hj2 : r[j]? = some b := by simpa using hj
  simpa using hr b (List.mem_of_getElem? hj2)
 refine Calls.mono (Tryz.strings_IndexAny (zero_of_info Tryz.info92).1 ⟨s.toArray⟩ ⟨ls.toArray⟩ w (by rw [ba_size]; omega) (by rw [ba_size]; omega) (key ha) (key hb)) ?_
 rintro e w' ⟨rfl, hF⟩
 refine ⟨?_, Fr.of_below hF⟩
 rw [← hz.out, ba_lst, ba_lst]
theorem sindex_any (w : World) (s : List UInt8) (c : UInt8) {z : Int} (hz : Hid (Lib.index s [c] = z)) :
  Calls Tryz.prog 187 #[strV s, .string ⟨#[c]⟩] w fun e w' => e = .returned (.int .i64 z) ∧ Fr [] w w' := by
 refine Calls.mono (Any.stringslite_Index_one (P := Tryz.prog) (ρ := Tryz.lays143_ren) { Tryz.lays143 with } ⟨s.toArray⟩ c w) ?_
 rintro e w' ⟨rfl, rfl⟩
 refine ⟨?_, Fr.refl _ _⟩
 rw [← hz.out, index_byte, ba_lst]
theorem scut_any (w : World) (s : List UInt8) (hs : s.length ≤ 4000000) {x y : List UInt8} {b : Bool} (hc : Hid (Lib.cut s [46] = (x, y, b))) :
  Calls Tryz.prog 153 #[strV s, .string (ByteArray.mk #[46])] w fun e w' => e = .returned (.tuple #[strV x, strV y, .bool b]) ∧ Fr [] w w' := by
 rcases index_one 46 s with ⟨h1, -⟩ | ⟨i, h1, hi, -, -⟩
 ·have h := hc.out
  unfold Lib.cut at h
  rw [h1, if_neg (by decide)] at h
  cases h
  have HI := hid h1
  clear h1 hc
  have H := Hp.start [] w
  go_enter Tryz.func153, Tryz.ntmps153
  go_wp2_with (first | refine x_q H ?_ | refine x_cm (fun h => ?_) (fun h => ?_) | refine x_l H ?_ | refine x_e (ev_strLen rfl rfl) ?_ | (revert H; refine x_g ?_; (first | (have hh := g3; clear hh; intro g4 w1 hg hf H) | (have hh := g2; clear hh; intro g3 w1 hg hf H) | (have hh := g1; clear hh; intro g2 w1 hg hf H) | (have hh := g0; clear hh; intro g1 w1 hg hf H) | intro g0 w1 hg hf H); (first | replace hf := hf.kp | clear hf)) | (revert H; refine x_s ?_; intro w1 hf H; (first | replace hf := hf.kp | clear hf)) | (revert H; refine x_sF ?_; intro w1 hf H hk; clear hf hk))
  (refine x_c H (sindex_any _ s 46 HI) ?_; clear H; rintro e w1 ⟨rfl, hF⟩ H; clear hF)
  go_wp2_with (first | refine x_q H ?_ | refine x_cm (fun h => ?_) (fun h => ?_) | refine x_l H ?_ | refine x_e (ev_strLen rfl rfl) ?_ | (revert H; refine x_g ?_; (first | (have hh := g3; clear hh; intro g4 w1 hg hf H) | (have hh := g2; clear hh; intro g3 w1 hg hf H) | (have hh := g1; clear hh; intro g2 w1 hg hf H) | (have hh := g0; clear hh; intro g1 w1 hg hf H) | intro g0 w1 hg hf H); (first | replace hf := hf.kp | clear hf)) | (revert H; refine x_s ?_; intro w1 hf H; (first | replace hf := hf.kp | clear hf)) | (revert H; refine x_sF ?_; intro w1 hf H hk; clear hf hk))
  go_ret3
  exact ⟨rfl, H.fr⟩
 ·have h := hc.out
  unfold Lib.cut at h
  rw [h1, if_pos (by omega), Int.toNat_natCast] at h
  obtain ⟨hx, h⟩ := Prod.mk.inj h
  obtain ⟨hy, hb⟩ := Prod.mk.inj h
  subst hb
  have HI := hid h1
  have HR1 := hid (show s.take ((i : Int)).toNat = x by rw [Int.toNat_natCast, hx])
  have HR2 := hid (show s.drop ((i : Int) + 1).toNat = y by rw [show ((i : Int) + 1).toNat = i + 1 by omega]; exact hy)
  clear h hx hy
  clear h1 hc
  have H := Hp.start [] w
  go_enter Tryz.func153, Tryz.ntmps153
  go_wp2_with (first | refine x_q H ?_ | refine x_cm (fun h => ?_) (fun h => ?_) | refine x_l H ?_ | refine x_e (ev_strLen rfl rfl) ?_ | (revert H; refine x_g ?_; (first | (have hh := g3; clear hh; intro g4 w1 hg hf H) | (have hh := g2; clear hh; intro g3 w1 hg hf H) | (have hh := g1; clear hh; intro g2 w1 hg hf H) | (have hh := g0; clear hh; intro g1 w1 hg hf H) | intro g0 w1 hg hf H); (first | replace hf := hf.kp | clear hf)) | (revert H; refine x_s ?_; intro w1 hf H; (first | replace hf := hf.kp | clear hf)) | (revert H; refine x_sF ?_; intro w1 hf H hk; clear hf hk))
  (refine x_c H (sindex_any _ s 46 HI) ?_; clear H; rintro e w1 ⟨rfl, hF⟩ H; clear hF)
  go_wp2_with (first | refine x_q H ?_ | refine x_cm (fun h => ?_) (fun h => ?_) | refine x_l H ?_ | refine x_e (ev_strLen rfl rfl) ?_ | (revert H; refine x_g ?_; (first | (have hh := g3; clear hh; intro g4 w1 hg hf H) | (have hh := g2; clear hh; intro g3 w1 hg hf H) | (have hh := g1; clear hh; intro g2 w1 hg hf H) | (have hh := g0; clear hh; intro g1 w1 hg hf H) | intro g0 w1 hg hf H); (first | replace hf := hf.kp | clear hf)) | (revert H; refine x_s ?_; intro w1 hf H; (first | replace hf := hf.kp | clear hf)) | (revert H; refine x_sF ?_; intro w1 hf H hk; clear hf hk))
  (revert H; refine w_p 12 (.st 0 (.st 1 (.st 2 (.st 3 (.st 4 (.st 5 (.st 6 (.st 7 (.st 8 (.st 9 (.st 10 (.st 11 .done)))))))))))) ?_; intro w1 H)
  iterate 2 refine p_q ?_
  (refine p_e rfl (fun w H => ev_strHead rfl rfl rfl HR1) ?_)
  iterate 3 refine p_q ?_
  (refine p_e (v := .int .i64 1) rfl (fun w H => ev_strLen (s := [46]) rfl rfl) ?_)
  refine p_q ?_
  (refine p_e rfl (fun w H => ev_strTail rfl rfl rfl HR2) ?_)
  iterate 3 refine p_q ?_
  (refine pl_done ?_)
  go_wp2_with (first | refine x_q H ?_ | refine x_cm (fun h => ?_) (fun h => ?_) | refine x_l H ?_ | refine x_e (ev_strLen rfl rfl) ?_ | (revert H; refine x_g ?_; (first | (have hh := g3; clear hh; intro g4 w1 hg hf H) | (have hh := g2; clear hh; intro g3 w1 hg hf H) | (have hh := g1; clear hh; intro g2 w1 hg hf H) | (have hh := g0; clear hh; intro g1 w1 hg hf H) | intro g0 w1 hg hf H); (first | replace hf := hf.kp | clear hf)) | (revert H; refine x_s ?_; intro w1 hf H; (first | replace hf := hf.kp | clear hf)) | (revert H; refine x_sF ?_; intro w1 hf H hk; clear hf hk))
  go_ret3
  exact ⟨rfl, H.fr⟩
theorem cut_any (w : World) (s : List UInt8) (hs : s.length ≤ 4000000) {x y : List UInt8} {b : Bool} (hc : Hid (Lib.cut s [46] = (x, y, b))) :
  Calls Tryz.prog 111 #[strV s, .string (ByteArray.mk #[46])] w fun e w' => e = .returned (.tuple #[strV x, strV y, .bool b]) ∧ Fr [] w w' := by
 have H := Hp.start [] w
 go_enter Tryz.func111, Tryz.ntmps111
 go_wp2_with (first | refine x_q H ?_ | refine x_cm (fun h => ?_) (fun h => ?_) | refine x_l H ?_ | refine x_e (ev_strLen rfl rfl) ?_ | (revert H; refine x_g ?_; (first | (have hh := g3; clear hh; intro g4 w1 hg hf H) | (have hh := g2; clear hh; intro g3 w1 hg hf H) | (have hh := g1; clear hh; intro g2 w1 hg hf H) | (have hh := g0; clear hh; intro g1 w1 hg hf H) | intro g0 w1 hg hf H); (first | replace hf := hf.kp | clear hf)) | (revert H; refine x_s ?_; intro w1 hf H; (first | replace hf := hf.kp | clear hf)) | (revert H; refine x_sF ?_; intro w1 hf H hk; clear hf hk))
 (refine x_c H (scut_any _ s hs hc) ?_; clear H; rintro e w1 ⟨rfl, hF⟩ H; clear hF)
 go_wp2_with (first | refine x_q H ?_ | refine x_cm (fun h => ?_) (fun h => ?_) | refine x_l H ?_ | refine x_e (ev_strLen rfl rfl) ?_ | (revert H; refine x_g ?_; (first | (have hh := g3; clear hh; intro g4 w1 hg hf H) | (have hh := g2; clear hh; intro g3 w1 hg hf H) | (have hh := g1; clear hh; intro g2 w1 hg hf H) | (have hh := g0; clear hh; intro g1 w1 hg hf H) | intro g0 w1 hg hf H); (first | replace hf := hf.kp | clear hf)) | (revert H; refine x_s ?_; intro w1 hf H; (first | replace hf := hf.kp | clear hf)) | (revert H; refine x_sF ?_; intro w1 hf H hk; clear hf hk))
 go_ret3
 exact ⟨rfl, H.fr⟩
end Go.Proofs.YtbiohhmpclnpgaaGreatDoor
