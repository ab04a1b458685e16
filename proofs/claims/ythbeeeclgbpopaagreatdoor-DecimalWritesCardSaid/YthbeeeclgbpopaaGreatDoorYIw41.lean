import Derived.Test.YthbeeeclgbpopaaGreatDoorYIw40
import Derived.Deep.DeepCutAuto
import Derived.Deep.CutBlock
namespace Go.Proofs.YthbeeeclgbpopaaGreatDoor
open Go.RowKit
set_option linter.unusedSimpArgs false
set_option linter.unusedVariables false
set_option maxHeartbeats 4000000
set_option maxRecDepth 100000
theorem ev_quoI {P : Program} {w : World} {a : Act} {o : Oper} {t t' : TypeId} {x y : Operand} (ho : o.op = .binOp .quo t x y t') {m n : Int} (hx : a.eval x = .int .u64 m) (hy : a.eval y = .int .u64 n) (h0 : 0 ≤ m := by omega) (h1 : 0 < n := by omega) (h2 : m < 18446744073709551616 := by omega) : (execOp a.eval o).run P w = .ok (.value (.int .u64 (m / n))) w :=
 ev_quo ho hx hy h0 h1 (by
  have h3 : 0 ≤ m / n := Int.ediv_nonneg h0 (Int.le_of_lt h1)
  have h4 : m / n ≤ m := Int.ediv_le_self _ h0
  simp only [inr]; omega)
theorem shl31 {w : World} {p : Option Addr} {n c : Nat} (a : List Nat) (s : Nat) (hn : a.length = n) (hn0 : n ≤ 1000000) (hs : s ≤ 31) (h : LR w p c a) :
  Calls Tryz.prog 133 #[.slice p n c, .int .i64 (s : Int)] w fun e w' => ShlP w (n + 1) (val a * 2 ^ s) e w' := by
 have h1 := shl_own a s hn hn0 (by omega) h
 rw [show s / 32 + n + 1 = n + 1 by omega] at h1
 exact h1
theorem Long.rest {A B n mm s ul : Nat} {l o : List Nat} (hB : 0 < B) (h : Long (B * 2 ^ s) (mm + 1) n (digs (A * 2 ^ s) ++ List.replicate (n + 1 - ul) 0) 0 l o) (hmn : mm + 1 ≤ n) : val o = A / B ∧ val l / 2 ^ s = A % B := by
 have h1 := h.whole hB hmn
 have h3 : val (l.take (mm + 1)) = val l := by
  have e := val_split l (mm + 1)
  have hz : val (l.drop (mm + 1)) = 0 := val_zero_of (fun k x hk hx => h.z k x (by omega) hx)
  rw [hz, Nat.mul_zero, Nat.add_zero] at e
  exact e.symm
 rw [h3] at h1
 exact h1
theorem guess_ge {seg v : List Nat} {m u0 u1 v1 : Nat} (hs : seg.length = m + 2) (hv : v.length = m + 1) (ls : Lim seg) (lv : Lim v) (h0 : seg[m + 1]? = some u0) (h1 : seg[m]? = some u1) (h2 : v[m]? = some v1) (hp : 0 < v1) : val seg / val v ≤ (u0 * 4294967296 + u1) / v1 := by
 have e1 := val_top2 hs h0 h1
 have e2 : val v = val (v.take m) + 4294967296 ^ m * v1 := by rw [← val_take_succ h2, List.take_of_length_le (by omega)]
 have h3 := val_lt (ls.take m)
 rw [List.length_take, Nat.min_eq_left (by omega)] at h3
 have hU : val seg < (u0 * 4294967296 + u1 + 1) * 4294967296 ^ m := by
  rw [e1, Nat.add_mul, Nat.one_mul, Nat.mul_comm (4294967296 ^ m), Nat.add_comm u1, Nat.mul_comm 4294967296 u0]
  omega
 have hV : v1 * 4294967296 ^ m ≤ val v := by rw [e2, Nat.mul_comm]; omega
 exact (Nat.le_div_iff_mul_le hp).2 (q_ge hV hU (Nat.div_mul_le_self (val seg) (val v)))
theorem min_cast (a : Nat) : min (a : Int) 4294967295 = ((min a 4294967295 : Nat) : Int) := by omega
theorem guess_cast (u0 u1 v1 : Nat) : min (((u0 : Int) * 4294967296 + (u1 : Int)) / (v1 : Int)) 4294967295 = ((min ((u0 * 4294967296 + u1) / v1) 4294967295 : Nat) : Int) := by
 have e : ((u0 : Int) * 4294967296 + (u1 : Int)) / (v1 : Int) = (((u0 * 4294967296 + u1) / v1 : Nat) : Int) := by rw [Int.natCast_ediv]; congr 1
 rw [e, min_cast]
theorem guess_in {Q z : Nat} (h1 : Q ≤ z) (h2 : Q < 4294967296) : Q ≤ min z 4294967295 ∧ min z 4294967295 < 4294967296 := by omega
set_option maxHeartbeats 8000000 in
theorem divMag_less {w : World} {p q : Option Addr} {n m c d : Nat} (A B : Nat) (hn : (digs A).length = n) (hm : (digs B).length = m) (hn0 : n ≤ 1000000) (hlt : A < B) (h : LR w p c (digs A)) (k : LR w q d (digs B)) :
  Calls Tryz.prog 130 #[.slice p n c, .slice q m d] w fun e w' => ∃ p1 c1 p2 c2, e = .returned (.tuple #[.slice p1 (digs (A / B)).length c1, .slice p2 (digs (A % B)).length c2]) ∧ Fr [] w w' ∧ LR w' p1 c1 (digs (A / B)) ∧ LR w' p2 c2 (digs (A % B)) := by
 have Hh := hid h
 have Hk := hid k
 have Hn := hid hn
 have Hm := hid hm
 have hc := cmpZ_neg hlt
 have HQ := hid (Nat.div_eq_of_lt hlt)
 have HR := hid (Nat.mod_eq_of_lt hlt)
 clear h k hn hm hlt
 have H := Hp.start [] w
 go_enter Tryz.func130, Tryz.ntmps130
 go_wp2_with fail
 (refine x_c H (cmpMag_any A B Hn.out Hm.out (Hh.out.fr H.fr) (Hk.out.fr H.fr)) ?_; clear H; rintro e w1 ⟨rfl, hF⟩ H)
 generalize cmpZ A B = z at hc ⊢
 go_wp2_with (refine x_q H ?_)
 refine bodyPost_ret (results_tmp2 rfl _ _ _) rfl ?_
 rw [HQ.out, HR.out, digs_zero, Hn.out]
 exact ⟨none, 0, p, c, rfl, H.fr, LR.zero _, Hh.out.fr H.fr⟩
set_option maxHeartbeats 8000000 in
theorem divMag_ge {w : World} {p q : Option Addr} {n m c d : Nat} (A B : Nat) (hn : (digs A).length = n) (hm : (digs B).length = m) (hn0 : n ≤ 400000) (hle : B ≤ A) (hm1 : 1 ≤ m) (h : LR w p c (digs A)) (k : LR w q d (digs B)) :
  Calls Tryz.prog 130 #[.slice p n c, .slice q m d] w fun e w' => ∃ p1 c1 p2 c2, e = .returned (.tuple #[.slice p1 (digs (A / B)).length c1, .slice p2 (digs (A % B)).length c2]) ∧ Fr [] w w' ∧ LR w' p1 c1 (digs (A / B)) ∧ LR w' p2 c2 (digs (A % B)) := by
 have hmn : m ≤ n := by have := digs_mono hle; omega
 obtain ⟨mm, hmm⟩ : ∃ mm, m = mm + 1 := ⟨m - 1, by omega⟩
 obtain ⟨x, hx⟩ : ∃ x, (digs B)[mm]? = some x := ⟨_, List.getElem?_eq_getElem (by omega)⟩
 have hxB := k.lim.at hx
 have hx0 := digs_last B x (by rw [hm, hmm, Nat.add_sub_cancel]; exact hx)
 have hb32 := bl_32 hxB
 have HNL := hid (norm_len (by rw [hm, hmm]) hx)
 have HGE := hid (norm_ge (by rw [hm, hmm]) hx)
 have hxv := limbs_at hx
 rw [show mm = ((m : Int) - 1).toNat by omega] at hxv
 obtain ⟨b0, off, rfl, hb0, hcell⟩ := k.rd.rng (limbs_ne (i := 0) (by omega))
 have Hh := hid h
 have Hk := hid k
 have Hn := hid hn
 have Hm := hid hm
 have Hmm := hid hmm
 have hmm2 : mm + 1 ≤ n := by omega
 have hc := cmpZ_nonneg hle
 obtain ⟨hlc, hcc⟩ := k.clen
 rw [hm] at hlc
 have H := (Hp.start [] w).pushRng (b := b0) (off := off) hb0 (by simp) hcell
 obtain ⟨s, hs⟩ : ∃ s, 32 - bl x = s := ⟨_, rfl⟩
 rw [hs] at HNL HGE
 have hs31 : s ≤ 31 := HGE.out.2
 have Hs := hid hs
 have HBp : Hid (0 < B) := hid (by
  rcases Nat.eq_zero_or_pos B with e | e
  ·rw [e, digs_zero] at hm; simp at hm; omega
  ·exact e)
 clear h k hn hm hle hx hcell hmm hs hx0 hb32
 go_enter Tryz.func130, Tryz.ntmps130
 go_wp2_with fail
 (refine x_c H (cmpMag_any A B Hn.out Hm.out (Hh.out.fr H.fr) (Hk.out.fr H.fr)) ?_; clear H; rintro e w1 ⟨rfl, hF⟩ H)
 generalize cmpZ A B = z at hc ⊢
 go_wp2_with (refine x_q H ?_)
 (refine x_c H (lead32_any _ hxB) ?_; clear H; rintro e w1 ⟨rfl, hF⟩ H)
 rw [Hs.out]
 go_wp2_with fail
 (revert H; refine w_p 10 (.st 0 (.st 1 (.st 3 (.st 4 (.st 6 (.ld 2 (.ld 5 (.st 7 (.st 8 (.st 9 .done)))))))))) ?_; intro w1 H)
 iterate 5 refine p_q ?_
 ((have Ho := H; refine p_c H rfl rfl Tryz.func133 (shl31 (digs A) s Hn.out (by omega) hs31 (Hh.out.fr H.fr)) ?_; clear H; rintro e w1 ⟨gu, cu, ou, pu, rfl, hF, hgu, hcu, hlu, hiu, hvu, hmu, hxu⟩ H; refine p_r ?_); have HU := hid hcu; have hguw : w.heap.size ≤ gu := Nat.le_trans Ho.fr.size hgu; clear hcu; clear Ho)
 ((have Ho := H; refine p_c H rfl rfl Tryz.func133 (shl31 (digs B) s Hm.out (by omega) hs31 (Hk.out.fr H.fr)) ?_; clear H; rintro e w1 ⟨gv, cv, ov, pv, rfl, hF, hgv, hcv, hlv, hiv, hvv, hmv, hxv2⟩ H; refine p_r ?_); have HV := hid hcv; have HU2 := hid (hF.get HU.out (by simp)); have hgd := (Array.getElem?_eq_some_iff.1 HU.out).1; clear hcv; clear Ho)
 iterate 3 refine p_q ?_
 (refine pl_done ?_)
 all_goals
  go_wp2_with (first | refine x_q H ?_ | (revert H; refine x_g ?_; intro g w1 hg hf H; (try (have hfk := hid hf; clear hf))))
  have Hf := hid H.fr
  have HU3 := hid (hfk.out.get HU2.out (by simp))
  have HV3 := hid (hfk.out.get HV.out (by simp))
  have hq0 := hid (H.at g)
  have hgvlt := (Array.getElem?_eq_some_iff.1 HV.out).1
  have hsz := hF.size
  have hgg := hg
  have hLv0 := LR.of_blk HV3.out hiv (by omega) hxv2
  have hLv := hLv0.trim
  rw [hvv, val_digs] at hLv
  have HLV := hid hLv
  have hul : (digs (A * 2 ^ s)).length ≤ n + 1 := by
   have h1 := digs_len_le hiu
   rw [hvu, val_digs, hlu] at h1
   exact h1
  obtain ⟨ul, hule⟩ : ∃ ul, (digs (A * 2 ^ s)).length = ul := ⟨_, rfl⟩
  have hou : ou = digs (A * 2 ^ s) ++ List.replicate (n + 1 - ul) 0 := by
   obtain ⟨kk, hk1⟩ := trim_eq hiu
   rw [hvu, val_digs] at hk1
   have h2 := congrArg List.length hk1
   rw [List.length_append, List.length_replicate, hlu, hule] at h2
   rw [hk1, show kk = n + 1 - ul by omega]
  have hlong := long_first (s := s) (ul := ul) (mm := mm) (B := B) (by have h1 := digs_lt A; rwa [Hn.out] at h1) (by omega) hule hmm2 HGE.out
  have HVB : Hid (B * 2 ^ s ≤ 4294967296 ^ (mm + 1)) := hid (by have := digs_lt (B * 2 ^ s); rw [HNL.out] at this; exact Nat.le_of_lt this)
  have hm2 : m = mm + 1 := Hmm.out
  have hng : gu ≠ g ∧ gv ≠ gu ∧ gv ≠ g := by omega
  rw [show ((n : Int) - (m : Int) + 1).toNat = n - mm by omega] at H hq0 ⊢
  rw [zeros_limbs] at hq0
  have HU4 : Hid (w1.heap[gu]? = some (.cells (limbs (digs (A * 2 ^ s) ++ List.replicate (n + 1 - ul) 0) ++ pu).toArray 99 (0, 0))) := hid (by rw [← hou]; exact HU3.out)
  have hgub : gu < w1.heap.size := (Array.getElem?_eq_some_iff.1 HU3.out).1
  have hgvb : gv < w1.heap.size := (Array.getElem?_eq_some_iff.1 HV3.out).1
  have Hule := hid hule
  have Hm2 := hid hm2
  have hfresh : Hid (w.heap.size ≤ gu ∧ w.heap.size ≤ g) := hid ⟨hguw, hgg.1⟩
  clear HU HU2 HU3 HV HV3 hLv0 hLv hou hiu hvu hlu hule hul hm2 hvv hiv hlv H
  have H0 := ((Hp.start [gu, g] w1).push HU4.out (.inl (by simp)) (by simp [Ent.own])).push hq0.out (.inl (by simp)) (by simp [Ent.own]; omega)
  obtain ⟨w5, hw5⟩ : ∃ w5, w5 = w1 := ⟨w1, rfl⟩
  subst hw5
  have H : Hp [gu, g] w5 w5 [.blk g (limbs (List.replicate (n - mm) 0)) 99, .blk gu (limbs (digs (A * 2 ^ s) ++ List.replicate (n + 1 - ul) 0) ++ pu) 99] := H0
  clear H0 hq0 HU4 hF
  go_loopw [11] (fun s11 wr => ∃ (i : Nat) (l o : List Nat), i ≤ n - mm ∧ s11 = .int .i64 ((i : Int) - 1) ∧ Long (B * 2 ^ s) (mm + 1) n (digs (A * 2 ^ s) ++ List.replicate (n + 1 - ul) 0) i l o ∧ Hp [gu, g] w5 wr [.blk g (limbs o) 99, .blk gu (limbs l ++ pu) 99]) (fun v _ => (intOf v + 1).toNat)
  case atStart => exact ⟨n - mm, _, _, Nat.le_refl _, by rw [show (n : Int) - (m : Int) = ((n - mm : Nat) : Int) - 1 by have := Hm2.out; omega], hlong, H⟩
  case round =>
   clear H
   obtain ⟨i, l, o, hi, rfl, HLo, H⟩ := hrel
   by_cases h0 : i = 0
   ·have h0' : (i : Int) - 1 < 0 := by omega
    go_wp2_with (refine x_q H ?_)
    have hll := HLo.hl
    have hol := HLo.ol
    rw [h0] at HLo
    obtain ⟨hq, hr⟩ := HLo.rest HBp.out hmm2
    have HL := hid (LR.of_blk (w := wr) (g := gu) (c := cu) (l := l) (pad := pu) (H.at gu) HLo.lim (by omega) hxu)
    have HL2 := hid (LR.of_blk (w := wr) (g := g) (c := n - mm) (l := o) (pad := []) (by rw [List.append_nil]; exact H.at g) HLo.olim (by omega) (by unfold maxLen; omega))
    have Hq := hid hq
    have Hr := hid hr
    have Hol := hid (show o.length = n - mm by omega)
    have hdl : (digs (val l)).length ≤ n + 1 := by
     have h1 := digs_len_le HLo.lim
     omega
    clear hq hr hol
    (refine x_c H (rtrim_any l hll (by omega) HL.out) ?_; clear H; rintro e w1 ⟨p5, c5, rfl, hF, hL5⟩ H; have HL5 := hid hL5; replace HL2 := hid (HL2.out.fr hF); clear hL5)
    go_wp2_with fail
    (refine x_c H (shr_small (digs (val l)) s rfl (by omega) hs31 HL5.out) ?_; clear H; rintro e w1 ⟨p6, c6, o6, lost, rfl, hF, hL6, hl6, hv6⟩ H; have HL6 := hid hL6; have Hl6 := hid hl6; have Hv6 := hid hv6; replace HL2 := hid (HL2.out.fr hF); clear hL6 hl6 hv6)
    go_wp2_with fail
    (refine x_c H (rtrim_any o Hol.out (by omega) HL2.out) ?_; clear H; rintro e w1 ⟨p7, c7, rfl, hF, hL7⟩ H; have HL7 := hid hL7; replace HL6 := hid (HL6.out.fr hF); clear hL7)
    go_wp2_with fail
    (refine x_c H (rtrim_any o6 Hl6.out (by omega) HL6.out) ?_; clear H; rintro e w1 ⟨p8, c8, rfl, hF, hL8⟩ H; have HL8 := hid hL8; replace HL7 := hid (HL7.out.fr hF); clear hL8)
    have HX : Hid (val o6 = A % B) := hid (by rw [Hv6.out, val_digs, Hr.out])
    rw [Hq.out] at HL7 ⊢
    rw [HX.out] at HL8 ⊢
    go_wp2_with fail
    refine bodyPost_ret (results_tmp2 rfl _ _ _) rfl ?_
    exact ⟨p7, c7, p8, c8, rfl, Hf.out.andThen H.fr (fun x hx => .inr (by
     have := hfresh.out
     simp at hx
     omega)), HL7.out, HL8.out⟩
   ·obtain ⟨j, rfl⟩ : ∃ j, i = j + 1 := ⟨i - 1, by omega⟩
    have e1 : (((j + 1 : Nat) : Int) - 1) = (j : Int) := by omega
    rw [e1]
    clear e1 h0
    have hjm : j + (mm + 1) ≤ n := by omega
    obtain ⟨hcut, c1, c2, c3, c4, c5⟩ := HLo.cut hjm
    have hll := HLo.hl
    obtain ⟨u0, hu0⟩ : ∃ u0, l[j + (mm + 1)]? = some u0 := ⟨_, List.getElem?_eq_getElem (by omega)⟩
    obtain ⟨u1, hu1⟩ : ∃ u1, l[j + mm]? = some u1 := ⟨_, List.getElem?_eq_getElem (by omega)⟩
    obtain ⟨v1, hv1⟩ : ∃ v1, (digs (B * 2 ^ s))[mm]? = some v1 := ⟨_, List.getElem?_eq_getElem (by rw [HNL.out]; omega)⟩
    have hv1p : 0 < v1 := Nat.pos_of_ne_zero (digs_last (B * 2 ^ s) v1 (by rw [HNL.out, Nat.add_sub_cancel]; exact hv1))
    have hu0B := HLo.lim.at hu0
    have hu1B := HLo.lim.at hu1
    have hv1B := (digs_lim (B * 2 ^ s)).at hv1
    have hA0 := pre_at (pad := pu) (limbs_at hu0)
    have hA1 := pre_at (pad := pu) (limbs_at hu1)
    have hB1 := limbs_at hv1
    rw [show j + (mm + 1) = ((j : Int) + (m : Int)).toNat by have := Hm2.out; omega] at hA0
    rw [show j + mm = ((j : Int) + (m : Int) - 1).toNat by have := Hm2.out; omega] at hA1
    rw [show mm = ((m : Int) - 1).toNat by have := Hm2.out; omega] at hB1
    have HG0 : Hid (val ((l.drop j).take (mm + 1 + 1)) / (B * 2 ^ s) ≤ (u0 * 4294967296 + u1) / v1) := hid (by
     have h1 := guess_ge (m := mm) (u0 := u0) (u1 := u1) (v1 := v1) c2 HNL.out c3 (digs_lim _) (by rw [List.getElem?_take, if_pos (by omega), List.getElem?_drop]; exact hu0) (by rw [List.getElem?_take, if_pos (by omega), List.getElem?_drop]; exact hu1) hv1 hv1p
     rwa [val_digs] at h1)
    have HQB : Hid (val ((l.drop j).take (mm + 1 + 1)) / (B * 2 ^ s) < 4294967296) := hid (Nat.div_lt_of_lt_mul (by rw [Nat.mul_comm]; exact c5))
    have Hcut := hid hcut
    have C1 := hid c1
    have C2 := hid c2
    have C4 := hid c4
    have C5 := hid c5
    have hmn2 : (j : Int) + (m : Int) < ((n + 1 : Nat) : Int) := by have := Hm2.out; omega
    clear hcut c1 c2 c4 c5 hu0 hu1 hv1
    have K1 := H.pushRng (b := gv) (off := 0) hgvb (by simp; omega) (cs := limbs (digs (B * 2 ^ s))) (by
     intro jj u hu
     obtain ⟨b', off', e1, _, e3⟩ := HLV.out.rd.rng (limbs_ne (i := 0) (by rw [HNL.out]; omega))
     cases e1
     exact e3 jj u hu)
    clear H
    have H := K1
    clear K1
    go_wp2_with (refine x_q H ?_)
    (revert H; refine w_p 18 (.st 0 (.st 1 (.st 2 (.st 3 (.st 4 (.st 5 (.st 6 (.st 7 (.st 8 (.st 9 (.st 10 (.st 11 (.st 12 (.st 13 (.st 14 (.st 15 (.st 16 (.st 17 .done)))))))))))))))))) ?_; intro w1 H)
    iterate 7 refine p_q ?_
    (refine p_e rfl (fun w H => ev_over rfl rfl) ?_)
    iterate 8 refine p_q ?_
    (refine p_e rfl (fun w H => ev_orJ rfl rfl rfl) ?_)
    refine p_q ?_
    (refine pl_done ?_)
    all_goals
     go_wp2_with (first | refine x_q H ?_ | refine x_e (ev_quoI rfl rfl rfl) ?_)
     have K1 := H.sub (l' := [.blk g (limbs o) 99, .blk gu (limbs l ++ pu) 99]) (by repeat first | exact List.Sublist.refl _ | exact List.nil_sublist _ | apply List.Sublist.cons_cons | apply List.Sublist.cons)
     clear H
     have H := K1
     clear K1
     rw [guess_cast]
     obtain ⟨Q, hQ⟩ : ∃ Q, val ((l.drop j).take (mm + 1 + 1)) / (B * 2 ^ s) = Q := ⟨_, rfl⟩
     rw [hQ] at HG0 HQB
     have HQ := hid hQ
     clear hQ hA0 hA1 hB1
     have hGi := guess_in HG0.out HQB.out
     generalize min ((u0 * 4294967296 + u1) / v1) 4294967295 = G0 at hGi ⊢
     have hVp : Hid (0 < B * 2 ^ s) := hid (Nat.mul_pos HBp.out (Nat.two_pow_pos s))
     have hcu63 : cu ≤ 9223372036854775807 := by have := hxu; unfold maxLen at this; omega
     rw [show ((m : Int) - 1).toNat = m - 1 by omega, show ((j : Int) + (m : Int) - 1).toNat = ((j : Int) + (m : Int)).toNat - 1 by omega]
     go_loopw [13] (fun s13 wr => ∃ G : Nat, s13 = .int .u64 (G : Int) ∧ Q ≤ G ∧ G < 4294967296 ∧ Hp [gu, g] w5 wr [.blk g (limbs o) 99, .blk gu (limbs l ++ pu) 99]) (fun z _ => (intOf z).toNat)
     case atStart => exact ⟨G0, rfl, hGi.1, hGi.2, H⟩
     case round =>
      clear H hGi
      obtain ⟨G, rfl, hGQ, hGB, H⟩ := hrel
      go_wp2_with fail
      refine Calls.mono (take_any (g := gu) (j := j) (ln := n + 1) (cap := cu) (n := m) (c := cv) (G := G) (pre := l.take j) (seg := (l.drop j).take (mm + 1 + 1)) (post := l.drop (j + (mm + 1 + 1))) (v := digs (B * 2 ^ s)) (pad := pu) (by rw [← Hcut.out]; exact H.at gu) C1.out (by rw [C2.out, Hm2.out]) (by rw [HNL.out, Hm2.out]) (by omega) (by omega) (by rw [← Hcut.out]; exact hll) hmu hcu63 c3 hGB (HLV.out.frS H.fr (by intro b off e hb; cases e; simp at hb; omega)) (by intro b off e; cases e; omega) hm1) ?_
      rintro e w2 ⟨sg, rfl, hF, k1, k2, k3, k4, hgw⟩
      rw [val_digs] at k3 k4 ⊢
      have H1 := H.wrote hF hgw
      clear H hF hgw
      have H := H1
      clear H1
      by_cases hT : G * (B * 2 ^ s) ≤ val ((l.drop j).take (mm + 1 + 1))
      ·have hGQ2 : G = Q := by
        have h1 := q_exact hVp.out (by rw [HQ.out]; exact hGQ) hT
        rw [h1, HQ.out]
       rw [if_pos hT] at k3
       have k5 : val sg = val ((l.drop j).take (mm + 1 + 1)) % (B * 2 ^ s) := by
        have h1 := Nat.div_add_mod (val ((l.drop j).take (mm + 1 + 1))) (B * 2 ^ s)
        rw [HQ.out, ← hGQ2, Nat.mul_comm] at h1
        omega
       have HN := HLo.next hjm HVB.out (by rw [k1, Hm2.out]) k2 k5
       rw [HQ.out, ← hGQ2] at HN
       rw [decide_eq_true hT]
       have HN2 := hid HN
       have hjo : j < o.length := by have := HLo.ol; omega
       clear hT k1 k2 k3 k4 k5 HN hGQ2
       go_wp2_with (first | refine x_q H ?_ | (revert H; refine x_s ?_; intro w1 hf H; (try (have hfk := hid hf; clear hf))))
       rw [limbs_set] at H
       go_roundw
       case rel => exact ⟨j, _, _, by omega, rfl, HN2.out, H⟩
       case measure => (simp [intOf]; try omega)
      ·rw [k4 hT, ← Hcut.out] at H
       rw [decide_eq_false hT]
       have hG1 : 1 ≤ G := by
        rcases Nat.eq_zero_or_pos G with e | e
        ·rw [e, Nat.zero_mul] at hT; omega
        ·exact e
       have hGQ3 : Q ≤ G - 1 := by
        apply Classical.byContradiction
        intro hn
        have e : G = Q := by omega
        apply hT
        rw [e, ← HQ.out]
        exact Nat.div_mul_le_self _ _
       clear hT k1 k2 k3 k4
       go_wp2_with fail
       go_roundw
       case rel => exact ⟨G - 1, by go_num, hGQ3, by omega, H⟩
       case measure => (simp [intOf]; try omega)
theorem divMag_any {w : World} {p q : Option Addr} {n m c d : Nat} (A B : Nat) (hn : (digs A).length = n) (hm : (digs B).length = m) (hn0 : n ≤ 400000) (hB : B ≠ 0) (h : LR w p c (digs A)) (k : LR w q d (digs B)) :
  Calls Tryz.prog 130 #[.slice p n c, .slice q m d] w fun e w' => ∃ p1 c1 p2 c2, e = .returned (.tuple #[.slice p1 (digs (A / B)).length c1, .slice p2 (digs (A % B)).length c2]) ∧ Fr [] w w' ∧ LR w' p1 c1 (digs (A / B)) ∧ LR w' p2 c2 (digs (A % B)) := by
 rcases Nat.lt_or_ge A B with h1 | h1
 ·exact divMag_less A B hn hm (by omega) h1 h k
 ·have := digs_len_pos hB
  exact divMag_ge A B hn hm hn0 h1 (by omega) h k
end Go.Proofs.YthbeeeclgbpopaaGreatDoor
