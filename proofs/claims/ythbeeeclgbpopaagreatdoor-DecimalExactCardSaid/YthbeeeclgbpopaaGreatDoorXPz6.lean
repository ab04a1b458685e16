/-
  The document's integers: Format.
-/
import Derived.Test.YthbeeeclgbpopaaGreatDoorXPz4
import Derived.Test.YthbeeeclgbpopaaGreatDoorXFa5
namespace Go.Proofs.YthbeeeclgbpopaaGreatDoor
open Go.RowKit
set_option linter.unusedSimpArgs false
set_option linter.unusedVariables false
set_option maxHeartbeats 16000000
set_option maxRecDepth 100000

/-- What holds at the head of the document's loop over digits. -/
structure Td (N n X : Nat) (ds : List UInt8) : Prop where
  len : ds.length ≤ 32 * n
  x : X = N / 10 ^ ds.length
  d : dec N = (if X = 0 ∧ ds ≠ [] then [] else dec X) ++ ds.reverse
theorem Td.start (N n : Nat) : Td N n N [] := ⟨by simp, by simp, by simp⟩
theorem Td.next {N n X : Nat} {ds : List UInt8} (h : Td N n X ds) (hN : N < 4294967296 ^ n) (hX : X ≠ 0) : Td N n (X / 10) (ds ++ [UInt8.ofNat (48 + X % 10)]) := by
  refine ⟨?_, ?_, ?_⟩
  · have h1 : 10 ^ ds.length ≤ N := by
      apply Classical.byContradiction
      intro hn
      have := h.x
      rw [Nat.div_eq_of_lt (by omega)] at this
      exact hX this
    have h2 : 2 ^ ds.length ≤ 10 ^ ds.length := Nat.pow_le_pow_left (by decide) _
    rw [powB] at hN
    have h3 : 2 ^ ds.length < 2 ^ (32 * n) := by omega
    have h4 := (Nat.pow_lt_pow_iff_right (show 1 < 2 by decide)).1 h3
    rw [List.length_append, List.length_cons, List.length_nil]
    omega
  · rw [List.length_append, List.length_cons, List.length_nil, Nat.pow_succ, ← Nat.div_div_eq_div_mul, ← h.x]
  · rw [h.d, if_neg (fun e => hX e.1), List.reverse_append, List.reverse_singleton, List.singleton_append]
    by_cases hq : X < 10
    · rw [if_pos ⟨by omega, by simp⟩, List.nil_append, dec_small hq, Nat.mod_eq_of_lt hq]
      rfl
    · rw [if_neg (fun e => by have := e.1; omega), dec_ten (by omega), List.append_assoc]
      rfl
theorem Td.fin {N n : Nat} {ds : List UInt8} (h : Td N n 0 ds) (hN : N ≠ 0) : ds ≠ [] ∧ ds.reverse = dec N := by
  have hne : ds ≠ [] := fun e => by
    have h1 := h.x
    rw [e] at h1
    simp at h1
    exact hN h1.symm
  refine ⟨hne, ?_⟩
  rw [h.d, if_pos ⟨rfl, hne⟩, List.nil_append]
theorem bytesV_ap (s t : List UInt8) : bytesV s ++ bytesV t = bytesV (s ++ t) := by simp [bytesV]
theorem bytesV_b (x : UInt8) : [Value.int .u8 (x.toNat : Int)] = bytesV [x] := by simp [bytesV]
theorem bytesV_d {r : Nat} (h : r < 10) : [Value.int .u8 (48 + (r : Int))] = bytesV [UInt8.ofNat (48 + r)] := by
  rw [← bytesV_b, UInt8.toNat_ofNat_of_lt' (show 48 + r < 256 by omega)]
  simp
theorem bytes_pad {s : List UInt8} {pad : List Value} {j : Nat} {x : UInt8} (h : s[j]? = some x) : (bytesV s ++ pad)[j]? = some (.int .u8 (x.toNat : Int)) := by
  apply pre_at
  simp [bytesV, h]
theorem LR.cellAt {w : World} {b off c : Nat} {l : List Nat} (h : LR w (some ⟨b, off, none⟩) c l) {j x : Nat} (hx : l[j]? = some x) : w.cell? ⟨b, off + j, none⟩ = some (.int .u32 (x : Int)) := by
  obtain ⟨b', off', e, _, hc⟩ := h.rd.rng (limbs_ne (i := j) (List.getElem?_eq_some_iff.1 hx).1)
  cases e
  exact hc j _ (limbs_at hx)
theorem rformat_any {w : World} {p : Option Addr} {n c : Nat} (neg : Bool) (l : List Nat) (hl : l.length = n) (hn : n ≤ 10000) (h : LR w p c l) :
    Calls Tryz.prog 68 #[.agg #[.bool neg, .slice p n c]] w fun e w' => e = .returned (strV (fmt (zv neg l))) ∧ Fr [] w w' := by
  subst hl
  have Hh := hid h
  have hlen := digs_len_le h.lim
  have H := Hp.start [] w
  clear h
  obtain ⟨A, hA⟩ : ∃ A, (zv neg l).natAbs = A := ⟨_, rfl⟩
  obtain ⟨nb, hnb⟩ : ∃ b, decide (zv neg l < 0) = b := ⟨_, rfl⟩
  have hdl : (digs A).length ≤ 10000 := by rw [← hA, zv_abs]; omega
  have HA := hid hA
  have Hnb := hid hnb
  have HAl := hid (digs_lt A)
  clear hA hnb hlen
  go_enter Tryz.func68, Tryz.ntmps68
  go_wp2_with (first | refine x_q H ?_ | (revert H; (first | (refine x_g ?_; intro g w1 hg hf H) | (refine x_s ?_; intro w1 hf H)); (first | replace HLm := hid (HLm.out.frS hf HNq.out) | replace hf := hf.kp | clear hf)))
  (refine x_c H (rnorm_any neg l rfl (by omega) (Hh.out.fr H.fr)) ?_; clear H; rintro e w1 ⟨p3, c3, rfl, hF, hL⟩ H; replace hF := hF.kp; skip)
  rw [HA.out] at hL
  rw [HA.out, Hnb.out]
  have HL3 := hid hL
  clear hL
  by_cases h0 : (digs A).length ≤ 0
  · have HZ : Hid (fmt (zv neg l) = [48]) := hid (by
      have h1 : A = 0 := Classical.byContradiction fun e => by have := digs_len_pos e; omega
      have h2 := HA.out
      rw [h1] at h2
      rw [Int.natAbs_eq_zero.1 h2, fmt_zero])
    go_wp2_with (first | refine x_q H ?_ | (revert H; refine x_s2 ?_; intro w1 hf H hk; clear hf; change Kp _ _ at hk))
    go_ret
    exact ⟨by rw [HZ.out]; rfl, H.fr⟩
  · have hA0 : Hid (A ≠ 0) := hid (fun e => by rw [e, digs_zero] at h0; exact h0 (Nat.le_refl _))
    have h0' : 0 < (digs A).length := by omega
    clear h0
    go_wp2_with (first | refine x_q H ?_ | (revert H; refine x_s2 ?_; intro w1 hf H hk; clear hf; change Kp _ _ at hk))
    obtain ⟨gb, hgb⟩ : ∃ x, x = g := ⟨_, rfl⟩
    subst hgb
    have H1 := H.newRow 0 (e := 5) (sz := 1)
    clear H
    have H := H1
    clear H1
    go_loopg [3, 4, 5, 6, 7] A (fun kk s3 s4 s5 s6 s7 wr => ∃ (p1 : Option Addr) (c1 : Nat) (ds : List UInt8) (v : Value) (S : List Nat) (m : Nat), s3 = v ∧ s4 = .slice p1 (digs kk).length c1 ∧ Hid (LR wr p1 c1 (digs kk)) ∧ Hid (Td A (digs A).length kk ds) ∧ (digs kk).length ≤ 10000 ∧ Hid (ds.length = m) ∧ m ≤ 320000 ∧ Hp [] w wr [.obj 0 S (RowAt 5 1 v m (bytesV ds) S), .blk gb [.bool nb, .slice p3 (digs A).length c3] 50])
    case atStart => exact ⟨p3, c3, [], _, _, 0, rfl, rfl, hid (lr HL3), hid (Td.start _ _), hdl, hid rfl, by omega, H⟩
    case round =>
      clear H
      obtain ⟨p1, c1, ds, v, S, m, hv, rfl, HL1, HD, hkl, Hm, hm3, H⟩ := hrel
      obtain ⟨pg, cg, he, hmc, hcm, _⟩ := (H.rowo 0).form
      subst he
      subst hv
      unfold maxLen at hcm
      by_cases h0 : gk = 0
      · have hk0 : (digs gk).length ≤ 0 := by rw [h0, digs_zero]; exact Nat.le_refl _
        have HT := hid (Td.fin (by have h := HD.out; rw [h0] at h; exact h) hA0.out)
        have hm1 : m ≠ 0 := fun e => HT.out.1 (List.eq_nil_of_length_eq_zero (by rw [Hm.out, e]))
        obtain ⟨gd, cap, pad, hS, hv, hn1, hcap, hpq, H1⟩ := H.rowBlk 0 hm1
        injection hv with e1 e2 e3
        subst e1 e3
        clear H hS e2 h0
        have H := H1.newRow 1 (e := 5) (sz := 1)
        clear H1
        cases nb
        · go_wp2_with (refine x_q H ?_)
          go_loopw [8, 9] (fun s8 s9 wr2 => ∃ (k : Nat) (out : List UInt8) (pv : Value) (S1 : List Nat), k ≤ m ∧ s8 = pv ∧ s9 = .int .i64 ((k : Int) - 1) ∧ Hid (out = [] ++ (ds.drop k).reverse) ∧ out.length + k ≤ 320001 ∧ Hp [] w wr2 [.obj 1 S1 (RowAt 5 1 pv out.length (bytesV out) S1), .blk gd (bytesV ds ++ pad) 5, .blk gb [.bool false, .slice p3 (digs A).length c3] 50]) (fun _ v _ => (intOf v + 1).toNat)
          case atStart => exact ⟨m, [], _, _, Nat.le_refl _, rfl, rfl, hid (by rw [← Hm.out, List.drop_length]; rfl), by (first | (simp only [List.length_cons, List.length_nil]; omega)), by (refine Hp.arr H ?_; repeat (first | exact Pm.nil _ | (apply Pm.cons; · (repeat first | exact Rm.here _ | apply Rm.there))))⟩
          case round =>
            clear H
            obtain ⟨k, out, pv, S1, hk, hpv, rfl, HO, hol, H⟩ := hrel
            obtain ⟨p5, c5, he, _, hc5, _⟩ := (H.rowo 1).form
            unfold maxLen at hc5
            subst he
            subst hpv
            by_cases hk0 : k = 0
            · have HF : Hid (fmt (zv neg l) = out) := hid (by rw [HO.out, hk0, List.drop_zero, HT.out.2]; exact (by rw [fmt, if_neg (of_decide_eq_false Hnb.out), HA.out]; rfl))
              have hlt : (k : Int) - 1 < 0 := by omega
              clear hk0
              go_wp2_with (first | refine x_q H ?_ | refine x_e (c_bs rfl rfl (H.rowo 1).rd) ?_)
              go_ret
              exact ⟨by rw [HF.out]; rfl, H.fr⟩
            · obtain ⟨j, rfl⟩ : ∃ j, k = j + 1 := ⟨k - 1, by omega⟩
              have e1 : (((j + 1 : Nat) : Int) - 1) = (j : Int) := by omega
              rw [e1]
              clear e1 hk0
              obtain ⟨x, hx⟩ : ∃ x, ds[j]? = some x := ⟨_, List.getElem?_eq_getElem (by have := Hm.out; omega)⟩
              have hxp := bytes_pad (pad := pad) hx
              have HX := hid hx
              have Hln : Hid ((out ++ [x]).length = out.length + 1) := hid (by rw [List.length_append]; rfl)
              clear hx
              go_wp2_with (first | refine x_q H ?_ | (refine is_blt (b := .append) rfl ?_; go_loud (refine wl_rw rfl (fun K hK => c_aprS H rfl rfl rfl 1 (H.rd (b := g) (off := 0) (vs := [.int .u8 ((x.toNat : Int))]) List.prefix_rfl) rfl (by intro u hu; simp only [List.mem_singleton] at hu; subst hu; rfl) (by omega) (by unfold maxLen; omega) (fun p1 c1 w1 S' hf H1 => hK _ _ ?_))); (clear hK K); (clear H; have H := H1; clear H1; (try dsimp only at H); (first | replace HLm := hid (HLm.out.frS hf HNq.out) | replace hf := hf.kp | clear hf)); (simp only [nrm, ↓reduceIte, Nat.reduceAdd])) | (revert H; (first | (refine x_g ?_; intro g w1 hg hf H) | (refine x_s ?_; intro w1 hf H)); (first | replace HLm := hid (HLm.out.frS hf HNq.out) | replace hf := hf.kp | clear hf)))
              rw [bytesV_b, bytesV_ap] at H
              go_roundw
              case rel => exact ⟨j, out ++ [x], _, _, by omega, rfl, rfl, hid (by rw [HO.out, drop_cons_at HX.out, List.reverse_cons, List.append_assoc]), by rw [Hln.out]; omega, by rw [Hln.out]; (refine Hp.arr H ?_; repeat (first | exact Pm.nil _ | (apply Pm.cons; · (repeat first | exact Rm.here _ | apply Rm.there))))⟩
              case measure => (simp [intOf]; try omega)
        · go_wp2_with (first | refine x_q H ?_ | (refine is_blt (b := .append) rfl ?_; go_loud (refine wl_rw rfl (fun K hK => c_aprS H rfl rfl rfl 1 (H.rd (b := g) (off := 0) (vs := [.int .u8 (45)]) List.prefix_rfl) rfl (by intro u hu; simp only [List.mem_singleton] at hu; subst hu; rfl) (by omega) (by unfold maxLen; omega) (fun p1 c1 w1 S' hf H1 => hK _ _ ?_))); (clear hK K); (clear H; have H := H1; clear H1; (try dsimp only at H); (first | replace HLm := hid (HLm.out.frS hf HNq.out) | replace hf := hf.kp | clear hf)); (simp only [nrm, ↓reduceIte, Nat.reduceAdd])) | (revert H; (first | (refine x_g ?_; intro g w1 hg hf H) | (refine x_s ?_; intro w1 hf H)); (first | replace HLm := hid (HLm.out.frS hf HNq.out) | replace hf := hf.kp | clear hf)))
          go_loopw [8, 9] (fun s8 s9 wr2 => ∃ (k : Nat) (out : List UInt8) (pv : Value) (S1 : List Nat), k ≤ m ∧ s8 = pv ∧ s9 = .int .i64 ((k : Int) - 1) ∧ Hid (out = [45] ++ (ds.drop k).reverse) ∧ out.length + k ≤ 320001 ∧ Hp [] w wr2 [.obj 1 S1 (RowAt 5 1 pv out.length (bytesV out) S1), .blk gd (bytesV ds ++ pad) 5, .blk gb [.bool true, .slice p3 (digs A).length c3] 50]) (fun _ v _ => (intOf v + 1).toNat)
          case atStart => exact ⟨m, [45], _, _, Nat.le_refl _, rfl, rfl, hid (by rw [← Hm.out, List.drop_length]; rfl), by (first | (simp only [List.length_cons, List.length_nil]; omega)), by (refine Hp.arr H ?_; repeat (first | exact Pm.nil _ | (apply Pm.cons; · (repeat first | exact Rm.here _ | apply Rm.there))))⟩
          case round =>
            clear H
            obtain ⟨k, out, pv, S1, hk, hpv, rfl, HO, hol, H⟩ := hrel
            obtain ⟨p5, c5, he, _, hc5, _⟩ := (H.rowo 1).form
            unfold maxLen at hc5
            subst he
            subst hpv
            by_cases hk0 : k = 0
            · have HF : Hid (fmt (zv neg l) = out) := hid (by rw [HO.out, hk0, List.drop_zero, HT.out.2]; exact (by rw [fmt, if_pos (of_decide_eq_true Hnb.out), HA.out]; rfl))
              have hlt : (k : Int) - 1 < 0 := by omega
              clear hk0
              go_wp2_with (first | refine x_q H ?_ | refine x_e (c_bs rfl rfl (H.rowo 1).rd) ?_)
              go_ret
              exact ⟨by rw [HF.out]; rfl, H.fr⟩
            · obtain ⟨j, rfl⟩ : ∃ j, k = j + 1 := ⟨k - 1, by omega⟩
              have e1 : (((j + 1 : Nat) : Int) - 1) = (j : Int) := by omega
              rw [e1]
              clear e1 hk0
              obtain ⟨x, hx⟩ : ∃ x, ds[j]? = some x := ⟨_, List.getElem?_eq_getElem (by have := Hm.out; omega)⟩
              have hxp := bytes_pad (pad := pad) hx
              have HX := hid hx
              have Hln : Hid ((out ++ [x]).length = out.length + 1) := hid (by rw [List.length_append]; rfl)
              clear hx
              go_wp2_with (first | refine x_q H ?_ | (refine is_blt (b := .append) rfl ?_; go_loud (refine wl_rw rfl (fun K hK => c_aprS H rfl rfl rfl 1 (H.rd (b := g) (off := 0) (vs := [.int .u8 ((x.toNat : Int))]) List.prefix_rfl) rfl (by intro u hu; simp only [List.mem_singleton] at hu; subst hu; rfl) (by omega) (by unfold maxLen; omega) (fun p1 c1 w1 S' hf H1 => hK _ _ ?_))); (clear hK K); (clear H; have H := H1; clear H1; (try dsimp only at H); (first | replace HLm := hid (HLm.out.frS hf HNq.out) | replace hf := hf.kp | clear hf)); (simp only [nrm, ↓reduceIte, Nat.reduceAdd])) | (revert H; (first | (refine x_g ?_; intro g w1 hg hf H) | (refine x_s ?_; intro w1 hf H)); (first | replace HLm := hid (HLm.out.frS hf HNq.out) | replace hf := hf.kp | clear hf)))
              rw [bytesV_b, bytesV_ap] at H
              go_roundw
              case rel => exact ⟨j, out ++ [x], _, _, by omega, rfl, rfl, hid (by rw [HO.out, drop_cons_at HX.out, List.reverse_cons, List.append_assoc]), by rw [Hln.out]; omega, by rw [Hln.out]; (refine Hp.arr H ?_; repeat (first | exact Pm.nil _ | (apply Pm.cons; · (repeat first | exact Rm.here _ | apply Rm.there))))⟩
              case measure => (simp [intOf]; try omega)
      · have hkp : 0 < (digs gk).length := digs_len_pos h0
        obtain ⟨b0, off, rfl, hb0, hcell⟩ := HL1.out.rd.rng (limbs_ne (i := 0) hkp)
        clear hcell
        have HN := hid (HD.out.next HAl.out h0)
        have Hlt := hid (Nat.div_lt_self (Nat.pos_of_ne_zero h0) (show 1 < 10 by decide))
        have hml := HN.out.len
        rw [List.length_append, Hm.out, List.length_cons, List.length_nil] at hml
        have hql := digs_mono (Nat.div_le_self gk 10)
        clear h0
        go_wp2_with (first | refine x_q H ?_ | (revert H; (first | (refine x_g ?_; intro g w1 hg hf H) | (refine x_s ?_; intro w1 hf H)); (first | replace HLm := hid (HLm.out.frS hf HNq.out) | replace hf := hf.kp | clear hf)))
        obtain ⟨gq, hgq⟩ : ∃ x, x = g := ⟨_, rfl⟩
        subst hgq
        have HNq : Hid (∀ (b : Nat) off', some (⟨b0, off, none⟩ : Addr) = some ⟨b, off', none⟩ → b ∉ [gq]) := hid (fun b off' e hb => by
          cases e
          simp only [List.mem_singleton] at hb
          have := hg.2
          omega)
        have HLm : Hid (LR w1 (some ⟨b0, off, none⟩) c1 (digs gk)) := hid (lr HL1)
        rw [show (((digs gk).length : Int)).toNat = (digs gk).length by omega, zeros_limbs] at H
        go_loopw [5, 7] (fun s5 s7 wr2 => ∃ (i r : Nat) (o : List Nat), i ≤ (digs gk).length ∧ s5 = .int .u64 r ∧ s7 = .int .i64 ((i : Int) - 1) ∧ r < 10 ∧ Hid (o.length = (digs gk).length) ∧ Hid (Lim o) ∧ Hid (val ((digs gk).drop i) = 10 * val (o.drop i) + r) ∧ Hid (LR wr2 (some ⟨b0, off, none⟩) c1 (digs gk)) ∧ Hp [] w wr2 [.blk gq (limbs o) 99, .obj 0 S (RowAt 5 1 (.slice pg m cg) m (bytesV ds) S), .blk gb [.bool nb, .slice p3 (digs A).length c3] 50]) (fun _ v _ => (intOf v + 1).toNat)
        case atStart => exact ⟨(digs gk).length, 0, List.replicate (digs gk).length 0, Nat.le_refl _, rfl, rfl, by omega, hid List.length_replicate, hid (Lim.zeros _), hid (by rw [List.drop_eq_nil_of_le (Nat.le_refl _), List.drop_eq_nil_of_le (by rw [List.length_replicate]; exact Nat.le_refl _)]; simp [val]), HLm, H⟩
        case round =>
          clear H HLm
          obtain ⟨i, r, o, hi, rfl, rfl, hr, Hol, Hlo, Hv, HLm, H⟩ := hrel
          by_cases h1 : i = 0
          · have HV : Hid (gk = 10 * val o + r) := hid (by
              have := Hv.out
              rwa [h1, List.drop_zero, List.drop_zero, val_digs] at this)
            have h1' : (i : Int) - 1 < 0 := by omega
            have HQ : Hid (val o = gk / 10) := hid (by have := HV.out; omega)
            have HR : Hid (gk % 10 = r) := hid (by have := HV.out; omega)
            have Hr := hid hr
            clear h1 HLm
            go_wp2_with (first | refine x_q H ?_ | (refine is_blt (b := .append) rfl ?_; go_loud (refine wl_rw rfl (fun K hK => c_aprS H rfl rfl rfl 0 (H.rd (b := g) (off := 0) (vs := [.int .u8 (48 + (r : Int))]) List.prefix_rfl) rfl (by intro u hu; simp only [List.mem_singleton] at hu; subst hu; rfl) (by omega) (by unfold maxLen; omega) (fun p1 c1 w1 S' hf H1 => hK _ _ ?_))); (clear hK K); (clear H; have H := H1; clear H1; (try dsimp only at H); (first | replace HLm := hid (HLm.out.frS hf HNq.out) | replace hf := hf.kp | clear hf)); (simp only [nrm, ↓reduceIte, Nat.reduceAdd])) | (revert H; (first | (refine x_g ?_; intro g w1 hg hf H) | (refine x_s ?_; intro w1 hf H)); (first | replace HLm := hid (HLm.out.frS hf HNq.out) | replace hf := hf.kp | clear hf)))
            rw [bytesV_d Hr.out, bytesV_ap] at H
            have hL := LR.of_blk (pad := []) (by rw [List.append_nil]; exact H.at gq) Hlo.out (by rw [Hol.out]; exact Nat.le_refl _) (by unfold maxLen; omega)
            (refine x_c H (rtrim_any o Hol.out (by omega) hL) ?_; clear H; rintro e w1 ⟨p5, c5, rfl, hF, hL5⟩ H; replace hF := hF.kp; have HL5 := hid hL5; clear hL5)
            rw [HQ.out] at HL5 ⊢
            go_wp2_with fail
            go_roundg (gk / 10)
            case measure => exact Hlt.out
            case rel => exact ⟨p5, c5, ds ++ [UInt8.ofNat (48 + r)], _, _, m + 1, rfl, rfl, HL5, hid (by have h := HN.out; rwa [HR.out] at h), by omega, hid (by rw [List.length_append, Hm.out]; rfl), by omega, by (refine Hp.arr H ?_; repeat (first | exact Pm.nil _ | (apply Pm.cons; · (repeat first | exact Rm.here _ | apply Rm.there))))⟩
          · obtain ⟨j, rfl⟩ : ∃ j, i = j + 1 := ⟨i - 1, by omega⟩
            obtain ⟨x, hx⟩ : ∃ x, (digs gk)[j]? = some x := ⟨_, List.getElem?_eq_getElem (by omega)⟩
            have hC := HLm.out.cellAt hx
            have hxB := HLm.out.lim.at hx
            have Hx := hid hx
            have e1 : (((j + 1 : Nat) : Int) - 1) = (j : Int) := by omega
            rw [e1]
            clear e1 hx h1
            have hjo : j < o.length := by rw [Hol.out]; omega
            obtain ⟨ov, hov⟩ : ∃ ov, o[j]? = some ov := ⟨_, List.getElem?_eq_getElem hjo⟩
            have hovv := limbs_at hov
            have hlim := short_limb hr hxB
            have Hlim := hid hlim
            clear hov hlim
            go_wp2_with (first | refine x_q H ?_ | refine x_e (c_ldc rfl rfl hC) ?_ | refine x_e (ev_over rfl rfl) ?_ | refine x_e (ev_orJ rfl rfl rfl) ?_ | (revert H; (first | (refine x_g ?_; intro g w1 hg hf H) | (refine x_s ?_; intro w1 hf H)); (first | replace HLm := hid (HLm.out.frS hf HNq.out) | replace hf := hf.kp | clear hf)))
            have e1 : ((r : Int) * 4294967296 + (x : Int)) / 10 = (((r * 4294967296 + x) / 10 : Nat) : Int) := by omega
            have e3 : ((r : Int) * 4294967296 + (x : Int)) % 10 = (((r * 4294967296 + x) % 10 : Nat) : Int) := by omega
            rw [e1, limbs_set] at H
            rw [e3]
            clear e1 e3
            go_roundw
            case rel => exact ⟨j, (r * 4294967296 + x) % 10, o.set j ((r * 4294967296 + x) / 10), by omega, rfl, rfl, Nat.mod_lt _ (by decide), hid (by rw [List.length_set]; exact Hol.out), hid (Hlo.out.set _ Hlim.out), hid (by rw [drop_set _ _ _ hjo, drop_cons_at Hx.out]; simp only [val]; exact short_round Hv.out), HLm, by (refine Hp.arr H ?_; repeat (first | exact Pm.nil _ | (apply Pm.cons; · (repeat first | exact Rm.here _ | apply Rm.there))))⟩
            case measure => (simp [intOf]; try omega)
theorem rformat_ar {w : World} {u : Value} {x : Int} {n : Nat} (h : Av w u x n) (hn : n ≤ 10000) :
    Calls Tryz.prog 68 #[u] w fun e w' => e = .returned (strV (fmt x)) ∧ Fr [] w w' := by
  obtain ⟨na, la, p, c, rfl, h1, rfl, h3⟩ := h
  exact rformat_any na la rfl (by omega) h1
end Go.Proofs.YthbeeeclgbpopaaGreatDoor
