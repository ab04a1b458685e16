import Derived.Test.YtbiohhmpclnpgaaGreatDoorXNb6
import Derived.Test.YtbiohhmpclnpgaaGreatDoorXPz3
namespace Go.Proofs.YtbiohhmpclnpgaaGreatDoor
open Go.RowKit
set_option linter.unusedSimpArgs false
set_option linter.unusedVariables false
set_option maxHeartbeats 8000000
set_option maxRecDepth 100000
attribute [local irreducible] wpList Code.wp Plan.wp
theorem ev_remZ {P : Program} {a : Act} {w : World} {o : Oper} {t t' : TypeId} {x y : Operand} (ho : o.op = .binOp .rem t x y t') {m n : Int} (z : Int) (hx : a.eval x = .int .i64 m) (hy : a.eval y = .int .i64 n) (h0 : 0 ≤ m) (h1 : 0 < n) (hz : Hid (m % n = z)) : (execOp a.eval o).run P w = .ok (.value (.int .i64 z)) w := by
 have hz := hz.out
 subst hz
 exact ev_rem ho hx hy h0 h1
theorem ev_addY {P : Program} {a : Act} {w : World} {o : Oper} {t t' : TypeId} {x y : Operand} (ho : o.op = .binOp .add t x y t') {m n : Int} (z : Int) (hx : a.eval x = .int .i64 m) (hy : a.eval y = .int .i64 n) (hz : Hid (m + n = z)) (hr : inr .i64 z := by simp only [inr]; omega) : (execOp a.eval o).run P w = .ok (.value (.int .i64 z)) w := by
 have hz := hz.out
 subst hz
 exact ev_add ho hx hy hr
theorem field_any (w : World) (c wd k : Nat) (zp zs : Int) {zc zw zk : Int} (hzc : Hid (zc = (c : Int))) (hzw : Hid (zw = (wd : Int))) (hzk : Hid (zk = (k : Int))) (hk : k < c) (hc : c ≤ 999) (hw : wd ≤ 999) {b off n cap : Nat} (hn : 0 < n) (l0 : List UInt8) (hl0 : l0.length ≤ 4000000) (hcell : w.cell? ⟨b, off, none⟩ = some (strV l0)) {r : List UInt8} (hr : Hid (blank (part (k * wd) (k * wd + wd) l0) = r)) :
  Calls Tryz.prog 67 #[.agg #[.int .i64 zc, .int .i64 zw, .int .i64 zp, .int .i64 zs], .slice (some ⟨b, off, none⟩) n cap, .int .i64 zk] w fun e w' => e = .returned (.tuple #[strV r, .int .i64 0]) ∧ Fr [] w w' := by
 rw [hzc.out, hzw.out, hzk.out]
 obtain ⟨q, hq⟩ : ∃ q, k * wd = q := ⟨_, rfl⟩
 rw [hq] at hr
 obtain ⟨m, hm⟩ : ∃ m, q + wd = m := ⟨_, rfl⟩
 rw [hm] at hr
 obtain ⟨p, hp⟩ : ∃ p, part q m l0 = p := ⟨_, rfl⟩
 rw [hp] at hr
 have hpl : p.length ≤ l0.length := hp ▸ part_len q m l0
 have hqm : q ≤ m := by omega
 have hq2 : q ≤ 998001 := by rw [← hq]; exact Nat.le_trans (Nat.mul_le_mul (show k ≤ 999 by omega) hw) (by decide)
 have HQ := hid (show (k : Int) * (wd : Int) = (q : Int) by rw [← hq]; exact (Int.natCast_mul k wd).symm)
 have HM := hid (show (q : Int) + (wd : Int) = (m : Int) by omega)
 have HP := hid hp
 have HQU := hid (show (k : Int) / (c : Int) = 0 from Int.ediv_eq_zero_of_lt (by omega) (by omega))
 have HRE := hid (show (k : Int) % (c : Int) = (k : Int) from Int.emod_eq_of_lt (by omega) (by omega))
 have h0 : 0 ≤ (k : Int) := by omega
 have h1 : 0 < (c : Int) := by omega
 have hm2 : m ≤ 999000 := by omega
 have HCELL := hid hcell
 clear hq hm hp hcell hzc hzw hzk
 have H := Hp.start [] w
 go_enter Tryz.func67, Tryz.ntmps67
 go_wp2_with (first | refine x_e (ev_quoZ rfl 0 rfl rfl h0 h1 HQU) ?_ | refine x_q H ?_ | refine x_cm (fun h => ?_) (fun h => ?_) | refine x_l H ?_ | refine x_e (ev_strLen rfl rfl) ?_ | (revert H; refine x_g ?_; (first | (have hh := g3; clear hh; intro g4 w1 hg hf H) | (have hh := g2; clear hh; intro g3 w1 hg hf H) | (have hh := g1; clear hh; intro g2 w1 hg hf H) | (have hh := g0; clear hh; intro g1 w1 hg hf H) | intro g0 w1 hg hf H); (first | replace hf := hf.kp | clear hf)) | (revert H; refine x_s ?_; intro w1 hf H; (first | replace hf := hf.kp | clear hf)) | (revert H; refine x_sF ?_; intro w1 hf H hk; clear hf hk))
 (revert H; refine w_p 8 (.st 0 (.st 1 (.st 2 (.st 3 (.st 4 (.st 5 (.st 6 (.st 7 .done)))))))) ?_; intro w1 H)
 iterate 3 refine p_q ?_
 (refine p_e rfl (fun w H => ev_remZ rfl (k : Int) rfl rfl h0 h1 HRE) ?_)
 iterate 2 refine p_q ?_
 (refine p_e rfl (fun w H => ev_mulZ rfl (q : Int) rfl rfl HQ) ?_)
 refine p_q ?_
 (refine pl_done ?_)
 go_wp2_with (first | refine x_q H ?_ | refine x_cm (fun h => ?_) (fun h => ?_) | refine x_l H ?_ | refine x_e (ev_strLen rfl rfl) ?_ | (revert H; refine x_g ?_; (first | (have hh := g3; clear hh; intro g4 w1 hg hf H) | (have hh := g2; clear hh; intro g3 w1 hg hf H) | (have hh := g1; clear hh; intro g2 w1 hg hf H) | (have hh := g0; clear hh; intro g1 w1 hg hf H) | intro g0 w1 hg hf H); (first | replace hf := hf.kp | clear hf)) | (revert H; refine x_s ?_; intro w1 hf H; (first | replace hf := hf.kp | clear hf)) | (revert H; refine x_sF ?_; intro w1 hf H hk; clear hf hk))
 (revert H; refine w_p 14 (.st 0 (.st 1 (.st 2 (.st 3 (.st 4 (.st 5 (.st 6 (.st 7 (.st 8 (.st 11 (.ld 9 (.ld 10 (.st 12 (.st 13 .done)))))))))))))) ?_; intro w1 H)
 iterate 2 refine p_q ?_
 (refine p_e rfl (fun w H => ev_ixE 0 off rfl rfl rfl (hid rfl)) ?_)
 (refine p_e rfl (fun w H => c_ldc rfl rfl (H.fr.cell HCELL.out (by simp))) ?_)
 iterate 4 refine p_q ?_
 (refine p_e rfl (fun w H => ev_addY rfl (m : Int) rfl rfl HM) ?_)
 refine p_q ?_
 (refine p_c H rfl rfl Tryz.func30 (part_any _ l0 hl0 q m hqm HP) ?_; clear H; rintro e w1 ⟨rfl, hF⟩ H; refine p_r ?_; clear hF)
 (refine p_c H rfl rfl Tryz.func28 (blank_any _ p (by omega) hr) ?_; clear H; rintro e w1 ⟨rfl, hF⟩ H; refine p_r ?_; clear hF)
 iterate 2 refine p_q ?_
 (refine pl_done ?_)
 go_wp2_with (first | refine x_q H ?_ | refine x_cm (fun h => ?_) (fun h => ?_) | refine x_l H ?_ | refine x_e (ev_strLen rfl rfl) ?_ | (revert H; refine x_g ?_; (first | (have hh := g3; clear hh; intro g4 w1 hg hf H) | (have hh := g2; clear hh; intro g3 w1 hg hf H) | (have hh := g1; clear hh; intro g2 w1 hg hf H) | (have hh := g0; clear hh; intro g1 w1 hg hf H) | intro g0 w1 hg hf H); (first | replace hf := hf.kp | clear hf)) | (revert H; refine x_s ?_; intro w1 hf H; (first | replace hf := hf.kp | clear hf)) | (revert H; refine x_sF ?_; intro w1 hf H hk; clear hf hk))
 go_ret2
 exact ⟨rfl, H.fr⟩
theorem integers_any (w : World) (c wd : Nat) (zp zs : Int) {zc zw zn : Int} (hzc : Hid (zc = (c : Int))) (hzw : Hid (zw = (wd : Int))) (hc : c ≤ 999) (hw : wd ≤ 999) {b off m cap : Nat} (hm : 0 < m) (l0 : List UInt8) (hl0 : l0.length ≤ 1000000) (hcell : w.cell? ⟨b, off, none⟩ = some (strV l0)) (vs : List Nat) {n : Nat} (hn : vs.length = n) (hzn : Hid (zn = (n : Int))) (hnc : n ≤ c)
  (hv : ∀ (k v : Nat), vs[k]? = some v → pz (blank (part (k * wd) (k * wd + wd) l0)) = ((v : Int), 0) ∧ v ≤ 1000) :
  Calls Tryz.prog 23 #[.slice (some ⟨b, off, none⟩) m cap, .agg #[.int .i64 zc, .int .i64 zw, .int .i64 zp, .int .i64 zs], .int .i64 zn] w fun e w' => ∃ v, e = .returned (.tuple #[v, .int .i64 (-1)]) ∧ Fr [] w w' ∧ w'.ownsRow w.heap.size 3 1 v n (vs.map iV) := by
 subst hn
 rw [hzn.out]
 have HCELL := hid hcell
 have HV := hid hv
 have H := (Hp.start [] w).newRow 1 (e := 3) (sz := 1)
 clear hcell hv hzn
 go_enter Tryz.func23, Tryz.ntmps23
 go_wp2_with (first | refine x_q H ?_ | refine x_cm (fun h => ?_) (fun h => ?_) | refine x_l H ?_ | refine x_e (ev_strLen rfl rfl) ?_ | (revert H; refine x_g ?_; (first | (have hh := g3; clear hh; intro g4 w1 hg hf H) | (have hh := g2; clear hh; intro g3 w1 hg hf H) | (have hh := g1; clear hh; intro g2 w1 hg hf H) | (have hh := g0; clear hh; intro g1 w1 hg hf H) | intro g0 w1 hg hf H); (first | replace hf := hf.kp | clear hf)) | (revert H; refine x_s ?_; intro w1 hf H; (first | replace hf := hf.kp | clear hf)) | (revert H; refine x_sF ?_; intro w1 hf H hk; clear hf hk))
 go_loopw [6, 16] (fun s6 s16 wr => ∃ (k : Nat) (p : Option Addr) (cp : Nat) (S : List Nat), s6 = .slice p k cp ∧ s16 = .int .i64 (k : Int) ∧ k ≤ vs.length ∧ Hp [] w wr [.obj 1 S (RowAt 3 1 (.slice p k cp) k ((vs.take k).map iV) S), .blk g0 [.int .i64 zc, .int .i64 zw, .int .i64 zp, .int .i64 zs] 64]) (fun _ v _ => vs.length - (intOf v).toNat)
 case atStart => exact ⟨0, none, 0, [], rfl, rfl, Nat.zero_le _, H.arr (by repeat (first | exact Pm.nil _ | (apply Pm.cons; · (repeat first | exact Rm.here _ | apply Rm.there))))⟩
 case round =>
  clear H
  obtain ⟨k, p, cp, S, rfl, rfl, hk, H⟩ := hrel
  by_cases hlt : k < vs.length
  ·obtain ⟨v, hvk⟩ : ∃ v, vs[k]? = some v := ⟨_, List.getElem?_eq_getElem hlt⟩
   obtain ⟨hpz, hv2⟩ := HV.out k v hvk
   have HT := hid (tk_snoc hvk)
   obtain ⟨r, hr⟩ : ∃ r, blank (part (k * wd) (k * wd + wd) l0) = r := ⟨_, rfl⟩
   have hrl : r.length ≤ l0.length := by rw [← hr]; exact Nat.le_trans (blank_len _) (part_len _ _ _)
   rw [hr] at hpz
   have HPZ := hid hpz
   have HR := hid hr
   clear hvk hpz hr
   go_wp2_with (first | refine x_q H ?_ | refine x_cm (fun h => ?_) (fun h => ?_) | refine x_l H ?_ | refine x_e (ev_strLen rfl rfl) ?_ | (revert H; refine x_g ?_; (first | (have hh := g3; clear hh; intro g4 w1 hg hf H) | (have hh := g2; clear hh; intro g3 w1 hg hf H) | (have hh := g1; clear hh; intro g2 w1 hg hf H) | (have hh := g0; clear hh; intro g1 w1 hg hf H) | intro g0 w1 hg hf H); (first | replace hf := hf.kp | clear hf)) | (revert H; refine x_s ?_; intro w1 hf H; (first | replace hf := hf.kp | clear hf)) | (revert H; refine x_sF ?_; intro w1 hf H hk; clear hf hk))
   (refine x_c H (field_any _ c wd k zp zs hzc hzw (hid rfl) (by omega) hc hw hm l0 (by omega) (H.fr.cell HCELL.out (by simp)) HR) ?_; clear H; rintro e w1 ⟨rfl, hF⟩ H; clear hF)
   go_wp2_with (first | refine x_q H ?_ | refine x_cm (fun h => ?_) (fun h => ?_) | refine x_l H ?_ | refine x_e (ev_strLen rfl rfl) ?_ | (revert H; refine x_g ?_; (first | (have hh := g3; clear hh; intro g4 w1 hg hf H) | (have hh := g2; clear hh; intro g3 w1 hg hf H) | (have hh := g1; clear hh; intro g2 w1 hg hf H) | (have hh := g0; clear hh; intro g1 w1 hg hf H) | intro g0 w1 hg hf H); (first | replace hf := hf.kp | clear hf)) | (revert H; refine x_s ?_; intro w1 hf H; (first | replace hf := hf.kp | clear hf)) | (revert H; refine x_sF ?_; intro w1 hf H hk; clear hf hk))
   (refine x_c H (parse_any _ r (by omega)) ?_; clear H; rintro e w1 ⟨v1, rfl, hF, hB⟩ H; replace hF := hF.kp; rw [HPZ.out] at hB ⊢; obtain ⟨b1, p1, m1, c1, rfl⟩ := hB.form; have HB1 := hid hB; clear hB)
   go_wp2_with (first | (revert H; refine xSB ?_; intro w1 H hk) | refine x_q H ?_ | refine x_cm (fun h => ?_) (fun h => ?_) | refine x_l H ?_ | refine x_e (ev_strLen rfl rfl) ?_ | (revert H; refine x_g ?_; (first | (have hh := g3; clear hh; intro g4 w1 hg hf H) | (have hh := g2; clear hh; intro g3 w1 hg hf H) | (have hh := g1; clear hh; intro g2 w1 hg hf H) | (have hh := g0; clear hh; intro g1 w1 hg hf H) | intro g0 w1 hg hf H); (first | replace hf := hf.kp | clear hf)) | (revert H; refine x_s ?_; intro w1 hf H; (first | replace hf := hf.kp | clear hf)) | (revert H; refine x_sF ?_; intro w1 hf H hk; clear hf hk))
   (refine x_c H (int_ar (bv HB1).ar (by omega) (by omega)) ?_; clear H; rintro e w1 ⟨rfl, hF⟩ H; replace hF := hF.kp)
   go_wp2_with (first | (refine is_blt (b := .append) rfl ?_; go_loud (refine wl_rw rfl (fun K hK => c_aprS H rfl rfl rfl 1 (H.rd (b := g2) (off := 0) (vs := [iV v]) List.prefix_rfl) rfl (by simp [Value.oneCell', iV]) (by omega) (by unfold maxLen; omega) (fun p1 c1 w1 S' hf H1 => hK _ _ ?_))); (clear hK K); (clear H; have H := H1; clear H1; (try dsimp only at H); (first | replace hf := hf.kp | clear hf)); (simp only [nrm, ↓reduceIte, Nat.reduceAdd])) | refine x_q H ?_ | refine x_cm (fun h => ?_) (fun h => ?_) | refine x_l H ?_ | refine x_e (ev_strLen rfl rfl) ?_ | (revert H; refine x_g ?_; (first | (have hh := g3; clear hh; intro g4 w1 hg hf H) | (have hh := g2; clear hh; intro g3 w1 hg hf H) | (have hh := g1; clear hh; intro g2 w1 hg hf H) | (have hh := g0; clear hh; intro g1 w1 hg hf H) | intro g0 w1 hg hf H); (first | replace hf := hf.kp | clear hf)) | (revert H; refine x_s ?_; intro w1 hf H; (first | replace hf := hf.kp | clear hf)) | (revert H; refine x_sF ?_; intro w1 hf H hk; clear hf hk))
   go_roundw
   case rel =>
    refine ⟨k + 1, _, _, S', rfl, rfl, by omega, ?_⟩
    rw [HT.out, List.map_append]
    exact H.arr (by repeat (first | exact Pm.nil _ | (apply Pm.cons; · (repeat first | exact Rm.here _ | apply Rm.there))))
   case measure => (simp [intOf]; try omega)
  ·obtain rfl : k = vs.length := by omega
   have HT := hid (List.take_length (l := vs))
   rw [HT.out] at H
   go_wp2_with (first | refine x_q H ?_ | refine x_cm (fun h => ?_) (fun h => ?_) | refine x_l H ?_ | refine x_e (ev_strLen rfl rfl) ?_ | (revert H; refine x_g ?_; (first | (have hh := g3; clear hh; intro g4 w1 hg hf H) | (have hh := g2; clear hh; intro g3 w1 hg hf H) | (have hh := g1; clear hh; intro g2 w1 hg hf H) | (have hh := g0; clear hh; intro g1 w1 hg hf H) | intro g0 w1 hg hf H); (first | replace hf := hf.kp | clear hf)) | (revert H; refine x_s ?_; intro w1 hf H; (first | replace hf := hf.kp | clear hf)) | (revert H; refine x_sF ?_; intro w1 hf H hk; clear hf hk))
   go_ret2
   exact ⟨_, rfl, H.fr, (H.rowo 1).owns (fun x hx => (H.home 1 x hx).resolve_left (by simp))⟩
end Go.Proofs.YtbiohhmpclnpgaaGreatDoor
namespace Go.Proofs.YtbiohhmpclnpgaaGreatDoor
open Go.RowKit
set_option linter.unusedSimpArgs false
set_option linter.unusedVariables false
set_option maxHeartbeats 8000000
set_option maxRecDepth 100000
attribute [local irreducible] wpList Code.wp Plan.wp
section
variable {P : Program} {ops : Array Oper} {Q : Exit → Act → World → Prop} {w w0 : World} {rest : List Oper} {o : Oper} {T : List Nat} {l : List Ent} {L : List Value} {ds : List Deferred}
theorem x_mmE (H : Hp T w0 w l) (k : Nat) (ho : o.op = .makeMap 129 none) {L' : Nat → List Value} (h : ∀ m w', Fr [] w w' → Hp T w0 w' (.obj k [m] (EmpAt m [m]) :: l) → wpList P ops Q rest ⟨(L' m).toArray, ds⟩ w')
  (hw : Region.wanted o (yielded ops L.toArray) = true := by rfl)
  (hs : ∀ g, putL L o.dst (.map (some g)) = L' g := by intro g; ((try simp only [nrm, putL_s, putL_n, ↓reduceIte, Nat.reduceAdd]); (try exact rfl))) : wpList P ops Q (o :: rest) ⟨L.toArray, ds⟩ w :=
 wl_rw hw fun K hK => c_mmE H k ho fun m w' h1 h2 => hK _ _ (by rw [put_eq, hs]; exact h m w' h1 h2)
theorem x_muE {m k : Nat} {S : List Nat} (H : Hp T w0 w (.obj k S (EmpAt m S) :: l)) {x y : Operand} (ho : o.op = .mapUpdate 129 x y (.const (.bool true))) (hx : (Act.mk L.toArray ds).eval x = .map (some m)) {z : Int} (hy : (Act.mk L.toArray ds).eval y = .int .i64 z) {L' : List Value}
  (h : ∀ w', Fr S w w' → Hp T w0 w' l → wpList Tryz.prog ops Q rest ⟨L'.toArray, ds⟩ w')
  (hw : Region.wanted o (yielded ops L.toArray) = true := by rfl)
  (hs : putL L o.dst undef = L' := by ((try simp only [nrm, putL_s, putL_n, ↓reduceIte, Nat.reduceAdd]); (try exact rfl))) : wpList Tryz.prog ops Q (o :: rest) ⟨L.toArray, ds⟩ w :=
 wl_rw hw fun K hK => c_updE H ho hx hy fun w' h1 h2 => hK _ _ (by rw [put_eq, hs]; exact h w' h1 h2)
end
def headC (c wd p s : Nat) : List Value := [.int .i64 3, .int .i64 1, .int .i64 1, .int .i64 1, .int .i64 0, .int .i64 1, .int .i64 1, .int .i64 1, strV sRUA, .int .i64 2, .int .i64 4, .int .i64 0, .int .i64 0, .int .i64 1, .int .i64 4, .int .i64 0, .int .i64 0, .int .i64 (c : Int), .int .i64 (wd : Int), .int .i64 (p : Int), .int .i64 (s : Int)]
theorem sums_any (w : World) (c wd p s : Nat) (hc : 1 ≤ c) (hc2 : c ≤ 999) :
  Calls Tryz.prog 66 #[.agg (headC c wd p s).toArray] w fun e w' => e = .returned (.bool true) ∧ Fr [] w w' := by
 unfold headC
 have H := Hp.start [] w
 go_enter Tryz.func66, Tryz.ntmps66
 go_wp2_with (first | refine x_q H ?_ | refine x_cm (fun h => ?_) (fun h => ?_) | refine x_l H ?_ | refine x_e (ev_strLen rfl rfl) ?_ | (revert H; refine x_g ?_; (first | (have hh := g3; clear hh; intro g4 w1 hg hf H) | (have hh := g2; clear hh; intro g3 w1 hg hf H) | (have hh := g1; clear hh; intro g2 w1 hg hf H) | (have hh := g0; clear hh; intro g1 w1 hg hf H) | intro g0 w1 hg hf H); (first | replace hf := hf.kp | clear hf)) | (revert H; refine x_s ?_; intro w1 hf H; (first | replace hf := hf.kp | clear hf)) | (revert H; refine x_sF ?_; intro w1 hf H hk; clear hf hk))
 (refine x_c H (pattern_any _ _ rfl rfl) ?_; clear H; rintro e w1 ⟨rfl, hF⟩ H; clear hF)
 go_wp2_with (first | refine x_q H ?_ | refine x_cm (fun h => ?_) (fun h => ?_) | refine x_l H ?_ | refine x_e (ev_strLen rfl rfl) ?_ | (revert H; refine x_g ?_; (first | (have hh := g3; clear hh; intro g4 w1 hg hf H) | (have hh := g2; clear hh; intro g3 w1 hg hf H) | (have hh := g1; clear hh; intro g2 w1 hg hf H) | (have hh := g0; clear hh; intro g1 w1 hg hf H) | intro g0 w1 hg hf H); (first | replace hf := hf.kp | clear hf)) | (revert H; refine x_s ?_; intro w1 hf H; (first | replace hf := hf.kp | clear hf)) | (revert H; refine x_sF ?_; intro w1 hf H hk; clear hf hk))
 (refine x_c H (linesF_any _ _ _ _ _ _ (by omega) (by omega) (by omega)) ?_; clear H; rintro e w1 ⟨rfl, hF⟩ H; clear hF)
 go_upto_region 4 with (first | refine x_q H ?_)
 (revert H; refine w_p 44 (.st 0 (.st 1 (.st 2 (.st 3 (.st 4 (.st 5 (.st 6 (.st 7 (.st 8 (.st 9 (.st 10 (.st 11 (.st 12 (.st 13 (.st 14 (.st 15 (.st 16 (.st 17 (.st 18 (.st 19 (.st 20 (.st 21 (.st 22 (.st 23 (.ld 24 (.st 25 (.st 26 (.st 27 (.st 28 (.st 29 (.st 30 (.st 31 (.st 32 (.st 33 (.ld 34 (.st 35 (.st 36 (.st 37 (.st 38 (.st 39 (.st 40 (.st 41 (.st 42 (.st 43 .done)))))))))))))))))))))))))))))))))))))))))))) ?_; intro w1 H)
 iterate 4 refine p_q ?_
 iterate 11 (first | refine p_q ?_ | refine p_n ?_)
 iterate 2 refine p_q ?_
 iterate 3 (first | refine p_q ?_ | refine p_n ?_)
 (refine p_l ?_)
 iterate 3 (first | refine p_q ?_ | refine p_n ?_)
 (refine p_c H rfl rfl Tryz.func112 (linesF_any _ _ _ _ _ _ (by omega) (by omega) (by omega)) ?_; clear H; rintro e w1 ⟨rfl, hF⟩ H; refine p_r ?_; clear hF)
 (first | refine p_q ?_ | refine p_n ?_)
 iterate 2 refine p_q ?_
 iterate 3 (first | refine p_q ?_ | refine p_n ?_)
 (refine p_l ?_)
 iterate 2 (first | refine p_q ?_ | refine p_n ?_)
 (refine p_c H rfl rfl Tryz.func112 (linesF_any _ _ _ _ _ _ (by omega) (by omega) (by omega)) ?_; clear H; rintro e w1 ⟨rfl, hF⟩ H; refine p_r ?_; clear hF)
 (first | refine p_q ?_ | refine p_n ?_)
 iterate 2 refine p_q ?_
 iterate 4 (first | refine p_q ?_ | refine p_n ?_)
 iterate 2 refine p_q ?_
 (refine pl_done ?_)
 go_wp2_with (first | refine x_q H ?_ | refine x_cm (fun h => ?_) (fun h => ?_) | refine x_l H ?_ | refine x_e (ev_strLen rfl rfl) ?_ | (revert H; refine x_g ?_; (first | (have hh := g3; clear hh; intro g4 w1 hg hf H) | (have hh := g2; clear hh; intro g3 w1 hg hf H) | (have hh := g1; clear hh; intro g2 w1 hg hf H) | (have hh := g0; clear hh; intro g1 w1 hg hf H) | intro g0 w1 hg hf H); (first | replace hf := hf.kp | clear hf)) | (revert H; refine x_s ?_; intro w1 hf H; (first | replace hf := hf.kp | clear hf)) | (revert H; refine x_sF ?_; intro w1 hf H hk; clear hf hk))
 go_ret
 exact ⟨rfl, H.fr⟩
set_option maxHeartbeats 32000000 in
theorem matrix_any (w : World) (c wd p s : Nat) {bp bi bv cp ci cv v : Nat} (h1 : ∀ j u, ([.int .i64 1, .int .i64 2] : List Value)[j]? = some u → w.cell? ⟨bp, 0 + j, none⟩ = some u) (h2 : ∀ j u, ([.int .i64 1] : List Value)[j]? = some u → w.cell? ⟨bi, 0 + j, none⟩ = some u) (h3 : ∀ j u, ([.int .u64 (v : Int)] : List Value)[j]? = some u → w.cell? ⟨bv, 0 + j, none⟩ = some u) :
  Calls Tryz.prog 27 #[.agg (headC c wd p s).toArray, .slice (some ⟨bp, 0, none⟩) 2 cp, .slice (some ⟨bi, 0, none⟩) 1 ci, .slice (some ⟨bv, 0, none⟩) 1 cv] w fun e w' => ∃ v1, e = .returned (.tuple #[v1, .bool true]) ∧ Fr [] w w' ∧ w'.ownsRow w.heap.size 131 3 v1 1 (eC (0, 0, v)) := by
 have hb1 : bp < w.heap.size := block_lt_of_cell (h1 0 _ rfl)
 have hb2 : bi < w.heap.size := block_lt_of_cell (h2 0 _ rfl)
 have hb3 : bv < w.heap.size := block_lt_of_cell (h3 0 _ rfl)
 have HR : Hid (CelR w (some ⟨bp, 0, none⟩) (([1, 2] : List Nat).map iV)) := hid (fun j u hj => ⟨bp, rfl, by have := h1 j u hj; rwa [Nat.zero_add] at this⟩)
 have H := ((((Hp.start [] w).pushRng (b := bv) (off := 0) hb3 (by simp) h3).pushRng (b := bi) (off := 0) hb2 (by simp) h2).pushRng (b := bp) (off := 0) hb1 (by simp) h1).newRow 1 (e := 131) (sz := 3)
 obtain ⟨bk, hk0, hkn⟩ : ∃ b, sRUA[1]? = some b ∧ b.toNat = 85 := ⟨85, rfl, rfl⟩
 clear h1 h2 h3 hb1 hb2 hb3
 unfold headC
 go_enter Tryz.func27, Tryz.ntmps27
 go_wp2_with (first | refine x_q H ?_ | refine x_cm (fun h => ?_) (fun h => ?_) | refine x_l H ?_ | refine x_e (ev_strLen rfl rfl) ?_ | (revert H; refine x_g ?_; (first | (have hh := g3; clear hh; intro g4 w1 hg hf H) | (have hh := g2; clear hh; intro g3 w1 hg hf H) | (have hh := g1; clear hh; intro g2 w1 hg hf H) | (have hh := g0; clear hh; intro g1 w1 hg hf H) | intro g0 w1 hg hf H); (first | replace hf := hf.kp | clear hf)) | (revert H; refine x_s ?_; intro w1 hf H; (first | replace hf := hf.kp | clear hf)) | (revert H; refine x_sF ?_; intro w1 hf H hk; clear hf hk))
 (revert H; refine w_p 20 (.st 0 (.st 1 (.st 2 (.st 3 (.st 4 (.st 5 (.ld 6 (.st 7 (.st 8 (.st 9 (.st 10 (.st 11 (.st 12 (.st 13 (.st 14 (.st 15 (.st 16 (.st 17 (.st 18 (.st 19 .done)))))))))))))))))))) ?_; intro w1 H)
 iterate 5 refine p_q ?_
 (first | refine p_q ?_ | refine p_n ?_)
 (refine p_c H rfl rfl Tryz.func71 (issorted_any _ [1, 2] rfl (by decide) (by decide) (by decide) (HR.out.fr H.fr)) ?_; clear H; rintro e w1 ⟨rfl, hF⟩ H; refine p_r ?_; clear hF)
 (first | refine p_q ?_ | refine p_n ?_)
 iterate 2 refine p_q ?_
 iterate 9 (first | refine p_q ?_ | refine p_n ?_)
 refine p_q ?_
 (refine pl_done ?_)
 go_wp2_with (first | refine x_q H ?_ | refine x_cm (fun h => ?_) (fun h => ?_) | refine x_l H ?_ | refine x_e (ev_strLen rfl rfl) ?_ | (revert H; refine x_g ?_; (first | (have hh := g3; clear hh; intro g4 w1 hg hf H) | (have hh := g2; clear hh; intro g3 w1 hg hf H) | (have hh := g1; clear hh; intro g2 w1 hg hf H) | (have hh := g0; clear hh; intro g1 w1 hg hf H) | intro g0 w1 hg hf H); (first | replace hf := hf.kp | clear hf)) | (revert H; refine x_s ?_; intro w1 hf H; (first | replace hf := hf.kp | clear hf)) | (revert H; refine x_sF ?_; intro w1 hf H hk; clear hf hk))
 go_loopw [10, 37] (fun s10 s37 wr => (s10 = .slice none 0 0 ∧ s37 = .int .i64 0 ∧ Hp [] w wr [.obj 1 [] (RowAt 131 3 (.slice none 0 0) 0 [] []), .blk g0 [.int .i64 3, .int .i64 1, .int .i64 1, .int .i64 1, .int .i64 0, .int .i64 1, .int .i64 1, .int .i64 1, strV sRUA, .int .i64 2, .int .i64 4, .int .i64 0, .int .i64 0, .int .i64 1, .int .i64 4, .int .i64 0, .int .i64 0, .int .i64 (c : Int), .int .i64 (wd : Int), .int .i64 (p : Int), .int .i64 (s : Int)] 66, .rng bp 0 [.int .i64 1, .int .i64 2], .rng bi 0 [.int .i64 1], .rng bv 0 [.int .u64 (v : Int)]]) ∨ (∃ q cq S, s10 = .slice q 1 cq ∧ s37 = .int .i64 1 ∧ Hp [] w wr [.obj 1 S (RowAt 131 3 (.slice q 1 cq) 1 (eC (0, 0, v)) S), .blk g0 [.int .i64 3, .int .i64 1, .int .i64 1, .int .i64 1, .int .i64 0, .int .i64 1, .int .i64 1, .int .i64 1, strV sRUA, .int .i64 2, .int .i64 4, .int .i64 0, .int .i64 0, .int .i64 1, .int .i64 4, .int .i64 0, .int .i64 0, .int .i64 (c : Int), .int .i64 (wd : Int), .int .i64 (p : Int), .int .i64 (s : Int)] 66, .rng bp 0 [.int .i64 1, .int .i64 2], .rng bi 0 [.int .i64 1], .rng bv 0 [.int .u64 (v : Int)]])) (fun _ x _ => 1 - (intOf x).toNat)
 case atStart => exact .inl ⟨rfl, rfl, H.arr (by repeat (first | exact Pm.nil _ | (apply Pm.cons; · (repeat first | exact Rm.here _ | apply Rm.there))))⟩
 case round =>
  clear H
  rcases hrel with ⟨rfl, rfl, H⟩ | ⟨q, cq, S, rfl, rfl, H⟩
  ·go_wp2_with (first | (refine x_mmE H 2 rfl ?_; clear H; intro mm w1 hf H; clear hf) | refine x_q H ?_ | refine x_cm (fun h => ?_) (fun h => ?_) | refine x_l H ?_ | refine x_e (ev_strLen rfl rfl) ?_ | (revert H; refine x_g ?_; (first | (have hh := g3; clear hh; intro g4 w1 hg hf H) | (have hh := g2; clear hh; intro g3 w1 hg hf H) | (have hh := g1; clear hh; intro g2 w1 hg hf H) | (have hh := g0; clear hh; intro g1 w1 hg hf H) | intro g0 w1 hg hf H); (first | replace hf := hf.kp | clear hf)) | (revert H; refine x_s ?_; intro w1 hf H; (first | replace hf := hf.kp | clear hf)) | (revert H; refine x_sF ?_; intro w1 hf H hk; clear hf hk))
   go_loopw [10, 13] (fun s10 s13 wr => (s10 = .slice none 0 0 ∧ s13 = .int .i64 0 ∧ Hp [] w wr [.obj 2 [mm] (EmpAt mm [mm]), .obj 1 [] (RowAt 131 3 (.slice none 0 0) 0 [] []), .blk g0 [.int .i64 3, .int .i64 1, .int .i64 1, .int .i64 1, .int .i64 0, .int .i64 1, .int .i64 1, .int .i64 1, strV sRUA, .int .i64 2, .int .i64 4, .int .i64 0, .int .i64 0, .int .i64 1, .int .i64 4, .int .i64 0, .int .i64 0, .int .i64 (c : Int), .int .i64 (wd : Int), .int .i64 (p : Int), .int .i64 (s : Int)] 66, .rng bp 0 [.int .i64 1, .int .i64 2], .rng bi 0 [.int .i64 1], .rng bv 0 [.int .u64 (v : Int)]]) ∨ (∃ q cq S, s10 = .slice q 1 cq ∧ s13 = .int .i64 1 ∧ Hp [] w wr [.obj 1 S (RowAt 131 3 (.slice q 1 cq) 1 (eC (0, 0, v)) S), .blk g0 [.int .i64 3, .int .i64 1, .int .i64 1, .int .i64 1, .int .i64 0, .int .i64 1, .int .i64 1, .int .i64 1, strV sRUA, .int .i64 2, .int .i64 4, .int .i64 0, .int .i64 0, .int .i64 1, .int .i64 4, .int .i64 0, .int .i64 0, .int .i64 (c : Int), .int .i64 (wd : Int), .int .i64 (p : Int), .int .i64 (s : Int)] 66, .rng bp 0 [.int .i64 1, .int .i64 2], .rng bi 0 [.int .i64 1], .rng bv 0 [.int .u64 (v : Int)]])) (fun _ x _ => 1 - (intOf x).toNat)
   case atStart => exact .inl ⟨rfl, rfl, H.arr (by repeat (first | exact Pm.nil _ | (apply Pm.cons; · (repeat first | exact Rm.here _ | apply Rm.there))))⟩
   case round =>
    clear H
    rcases hrel with ⟨rfl, rfl, H⟩ | ⟨q, cq, S, rfl, rfl, H⟩
    ·go_wp2_with (first | refine x_e (c_lookE H (.head _) rfl rfl rfl) ?_ | refine x_e (ev_strIdx rfl rfl rfl (by decide) hk0) ?_ | (refine x_muE H rfl rfl rfl ?_; clear H; intro w1 hf H; clear hf) | (refine is_blt (b := .append) rfl ?_; go_loud (refine wl_rw rfl (fun K hK => c_aprS H rfl rfl rfl 1 (H.rd (b := g1) (off := 0) (vs := eC (0, 0, v)) List.prefix_rfl) rfl (eC_one _) (by omega) (by unfold maxLen; omega) (fun p1 c1 w1 S' hf H1 => hK _ _ ?_))); (clear hK K); (clear H; have H := H1; clear H1; (try dsimp only at H); (first | replace hf := hf.kp | clear hf)); (simp only [nrm, ↓reduceIte, Nat.reduceAdd])) | refine x_q H ?_ | refine x_cm (fun h => ?_) (fun h => ?_) | refine x_l H ?_ | refine x_e (ev_strLen rfl rfl) ?_ | (revert H; refine x_g ?_; (first | (have hh := g3; clear hh; intro g4 w1 hg hf H) | (have hh := g2; clear hh; intro g3 w1 hg hf H) | (have hh := g1; clear hh; intro g2 w1 hg hf H) | (have hh := g0; clear hh; intro g1 w1 hg hf H) | intro g0 w1 hg hf H); (first | replace hf := hf.kp | clear hf)) | (revert H; refine x_s ?_; intro w1 hf H; (first | replace hf := hf.kp | clear hf)) | (revert H; refine x_sF ?_; intro w1 hf H hk; clear hf hk))
     go_roundw
     case rel => exact .inr ⟨_, _, S', rfl, rfl, H.arr (by repeat (first | exact Pm.nil _ | (apply Pm.cons; · (repeat first | exact Rm.here _ | apply Rm.there))))⟩
     case measure => (simp [intOf]; try omega)
    ·go_wp2_with (first | refine x_q H ?_ | refine x_cm (fun h => ?_) (fun h => ?_) | refine x_l H ?_ | refine x_e (ev_strLen rfl rfl) ?_ | (revert H; refine x_g ?_; (first | (have hh := g3; clear hh; intro g4 w1 hg hf H) | (have hh := g2; clear hh; intro g3 w1 hg hf H) | (have hh := g1; clear hh; intro g2 w1 hg hf H) | (have hh := g0; clear hh; intro g1 w1 hg hf H) | intro g0 w1 hg hf H); (first | replace hf := hf.kp | clear hf)) | (revert H; refine x_s ?_; intro w1 hf H; (first | replace hf := hf.kp | clear hf)) | (revert H; refine x_sF ?_; intro w1 hf H hk; clear hf hk))
     go_roundw
     case rel => exact .inr ⟨q, cq, S, rfl, rfl, H.arr (by repeat (first | exact Pm.nil _ | (apply Pm.cons; · (repeat first | exact Rm.here _ | apply Rm.there))))⟩
     case measure => (simp [intOf]; try omega)
  ·go_wp2_with (first | refine x_q H ?_ | refine x_cm (fun h => ?_) (fun h => ?_) | refine x_l H ?_ | refine x_e (ev_strLen rfl rfl) ?_ | (revert H; refine x_g ?_; (first | (have hh := g3; clear hh; intro g4 w1 hg hf H) | (have hh := g2; clear hh; intro g3 w1 hg hf H) | (have hh := g1; clear hh; intro g2 w1 hg hf H) | (have hh := g0; clear hh; intro g1 w1 hg hf H) | intro g0 w1 hg hf H); (first | replace hf := hf.kp | clear hf)) | (revert H; refine x_s ?_; intro w1 hf H; (first | replace hf := hf.kp | clear hf)) | (revert H; refine x_sF ?_; intro w1 hf H hk; clear hf hk))
   go_ret2
   exact ⟨_, rfl, H.fr, (H.rowo 1).owns (fun x hx => (H.home 1 x hx).resolve_left (by simp))⟩
end Go.Proofs.YtbiohhmpclnpgaaGreatDoor
