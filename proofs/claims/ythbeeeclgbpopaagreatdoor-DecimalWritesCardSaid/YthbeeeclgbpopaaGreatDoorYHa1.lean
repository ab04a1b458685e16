import Derived.Test.YthbeeeclgbpopaaGreatDoorYIz6
import Derived.Test.YthbeeeclgbpopaaGreatDoorYIw42
import Derived.Test.YthbeeeclgbpopaaGreatDoorYIz13
import Derived.Test.YthbeeeclgbpopaaGreatDoorYEa2
namespace Go.Proofs.YthbeeeclgbpopaaGreatDoor
open Go.RowKit
set_option linter.unusedSimpArgs false
set_option linter.unusedVariables false
set_option maxHeartbeats 8000000
set_option maxRecDepth 100000
theorem rtrim_v {w : World} {p : Option Addr} {n c A : Nat} (l : List Nat) (hl : l.length = n) (hn : n ≤ 1000000) (hA : Hid (val l = A)) (h : LR w p c l) :
  Calls Tryz.prog 135 #[.slice p n c] w fun e w' => ∃ p' c', e = .returned (.slice p' (digs A).length c') ∧ Fr [] w w' ∧ LR w' p' c' (digs A) := by
 have h1 := rtrim_any l hl hn h
 rwa [hA.out] at h1
theorem rtrim_m {w : World} {p : Option Addr} {n c : Nat} {m : List Nat} (l : List Nat) (hl : l.length = n) (hn : n ≤ 1000000) (hm : Hid (digs (val l) = m)) (h : LR w p c l) :
  Calls Tryz.prog 135 #[.slice p n c] w fun e w' => ∃ p' c', e = .returned (.slice p' m.length c') ∧ Fr [] w w' ∧ LR w' p' c' m := by
 have h1 := rtrim_any l hl hn h
 rwa [hm.out] at h1
theorem rBitLen_ar {w : World} {u : Value} {x : Int} {n : Nat} (h : Av w u x n) (hn : n ≤ 200000) :
  Calls Tryz.prog 169 #[u] w fun e w' => e = .returned (.int .i64 (bl x.natAbs : Int)) ∧ Fr [] w w' := by
 obtain ⟨neg, l, p, c, rfl, hL, rfl, hln⟩ := h
 rw [zv_abs]
 have Hh := hid hL
 have hlen := digs_len_le hL.lim
 obtain ⟨A, hA⟩ : ∃ A, val l = A := ⟨_, rfl⟩
 rw [hA] at hlen ⊢
 have HA := hid hA
 have H := Hp.start [] w
 clear hL hA
 go_enter Tryz.func169, Tryz.ntmps169
 go_wp2_with (first | refine x_q H ?_ | (revert H; refine x_g ?_; intro g w1 hg hf H; replace hf := hf.kp))
 (refine x_c H (rtrim_v l rfl (by omega) HA (Hh.out.fr H.fr)) ?_; clear H; rintro e w1 ⟨p7, c7, rfl, hF, hL⟩ H; replace hF := hF.kp)
 have Hf0 := hid H.fr
 clear H hF Hh HA
 have H := Hp.start [] w1
 by_cases h0 : (digs A).length ≤ 0
 ·have HB : Hid (bl A = 0) := hid (by rw [digs_zero_len h0]; rfl)
  clear hL
  go_wp2_with (refine x_q H ?_)
  go_ret
  exact ⟨by rw [HB.out]; rfl, Hf0.out.trans H.fr⟩
 ·obtain ⟨k, hk⟩ : ∃ k, (digs A).length = k + 1 := ⟨(digs A).length - 1, by omega⟩
  obtain ⟨x, hx⟩ : ∃ x, (digs A)[k]? = some x := ⟨_, List.getElem?_eq_getElem (by omega)⟩
  have hxv := limbs_at hx
  have hxB := hL.lim.at hx
  have HB : Hid (bl A = 32 * k + bl x) := hid (by
   have h2 := bl_digs hk (digs_lim A) hx (digs_last A x (by rw [hk]; exact hx))
   rwa [val_digs] at h2)
  have hb32 := bl_32 hxB
  obtain ⟨b0, off, rfl, hb0, hcell⟩ := hL.rd.rng (limbs_ne (i := k) (by omega))
  have H1 := H.pushRng (b := b0) (off := off) hb0 (by simp) hcell
  clear H hcell
  have H := H1
  clear H1 hx h0 hL
  generalize (digs A).length = m at *
  rw [show k = ((m : Int) - 1).toNat by omega] at hxv
  have hm1 : (m : Int) = (k : Int) + 1 := by omega
  have Hm := hid hm1
  have hm2 : 1 ≤ m := by omega
  clear hm1 hk
  go_wp2_with (refine x_q H ?_)
  (refine x_c H (len32_any _ hxB) ?_; clear H; rintro e w1 ⟨rfl, hF⟩ H; replace hF := hF.kp)
  go_wp2_with fail
  go_ret
  exact ⟨by rw [HB.out]; have := Hm.out; go_num, Hf0.out.trans H.fr⟩
theorem rTrailing_ar {w : World} {u : Value} {x : Int} {n : Nat} (h : Av w u x n) (hn : n ≤ 200000) (hT : TabAt 0 Lib.deBruijn32tab w) :
  Calls Tryz.prog 65 #[u] w fun e w' => e = .returned (.int .i64 (tz x.natAbs : Int)) ∧ Fr [] w w' := by
 obtain ⟨neg, l, p, c, rfl, hL, rfl, hln⟩ := h
 rw [zv_abs]
 have Hh := hid hL
 have hlen := digs_len_le hL.lim
 obtain ⟨m, hm⟩ : ∃ m, digs (val l) = m := ⟨_, rfl⟩
 have Hd : tz (val l) = tz (val m) := by rw [← hm, val_digs]
 rw [hm] at hlen
 rw [Hd]
 have HM := hid hm
 have HT0 := hid hT
 have H := Hp.start [] w
 clear hL hT hm Hd
 go_enter Tryz.func65, Tryz.ntmps65
 go_wp2_with (first | refine x_q H ?_ | (revert H; refine x_g ?_; intro g w1 hg hf H; replace hf := hf.kp))
 (refine x_c H (rtrim_m l rfl (by omega) HM (Hh.out.fr H.fr)) ?_; clear H; rintro e w1 ⟨p7, c7, rfl, hF, hL⟩ H; replace hF := hF.kp)
 have Hf0 := hid H.fr
 have HT := hid (TabAt.fr HT0.out H.fr)
 clear H hF Hh HT0
 have H := Hp.start [] w1
 have hlm : m.length ≤ 200000 := by omega
 clear hlen hln HM
 have Hh := hid hL
 clear hL
 go_wp2_with fail
 go_loopw [4] (fun s8 wr => ∃ i : Nat, i ≤ m.length ∧ s8 = .int .i64 (i : Int) ∧ Hid (∀ j, j < i → m[j]? = some 0) ∧ Hp [] w1 wr []) (fun v _ => m.length - (intOf v).toNat)
 case atStart => exact ⟨0, Nat.zero_le _, rfl, hid (fun j hj => absurd hj (Nat.not_lt_zero _)), H⟩
 case round =>
  clear H
  obtain ⟨i, hi, rfl, Hz, H⟩ := hrel
  by_cases hin : i < m.length
  ·obtain ⟨x, hx⟩ : ∃ x, m[i]? = some x := ⟨_, List.getElem?_eq_getElem hin⟩
   have hxv := limbs_at hx
   have hxB := Hh.out.lim.at hx
   have Hx := hid hx
   obtain ⟨b0, off, rfl, hb0, hcell⟩ := Hh.out.rd.rng (limbs_ne (i := i) hin)
   have H1 := H.pushRng (b := b0) (off := off) hb0 (by simp) hcell
   clear H hcell
   have H := H1
   clear H1
   clear hx
   by_cases h0 : x = 0
   ·have Hx0 := hid h0
    have hx0 : (x : Int) = 0 := by omega
    clear h0
    rw [hx0] at hxv
    clear hx0
    go_wp2_with (refine x_q H ?_)
    go_roundw
    case rel => exact ⟨i + 1, by omega, by go_num, hid (upto_step Hz.out (by have := Hx.out; rw [Hx0.out] at this; exact this)), H.sub (by repeat first | exact List.Sublist.refl _ | exact List.nil_sublist _ | apply List.Sublist.cons_cons | apply List.Sublist.cons)⟩
    case measure => (simp [intOf]; try omega)
   ·have hx0 : 0 < x := Nat.pos_of_ne_zero h0
    have Hx0 := hid h0
    have HR : Hid (tz (val m) = 32 * i + tz x) := hid (tz_digs Hx.out h0 Hh.out.lim Hz.out)
    clear h0
    go_wp2_with (refine x_q H ?_)
    (refine x_c H (tz32_any _ x Hx0.out hxB (TabAt.fr HT.out H.fr)) ?_; clear H; rintro e w1 ⟨rfl, hF⟩ H; replace hF := hF.kp)
    have ht : tz x ≤ 64 := by
     have h1 := ctz_tz 32 x hx0 (by omega)
     obtain ⟨_, _, h2⟩ := Lib.ctzFrom_spec 32 x hx0 (by omega)
     omega
    go_wp2_with fail
    go_ret
    exact ⟨by rw [HR.out]; go_num, Hf0.out.trans H.fr⟩
  ·have e : val m = 0 := by
    apply zeros_tail
    intro k x hk
    have h1 := (List.getElem?_eq_some_iff.1 hk).1
    have h2 := Hz.out k (by omega)
    rw [hk] at h2
    exact Option.some.inj h2
   have He := hid e
   clear e
   go_wp2_with (refine x_q H ?_)
   go_ret
   exact ⟨by rw [He.out, tz_zero]; rfl, Hf0.out.trans H.fr⟩
theorem rshiftUp_ar {w : World} {u : Value} {x : Int} {n : Nat} (k : Nat) (h : Av w u x n) (hn : n ≤ 100000) (hk : k ≤ 1048576) :
  Calls Tryz.prog 64 #[u, .int .i64 (k : Int)] w fun e w' => ∃ v1, e = .returned v1 ∧ Fr [] w w' ∧ Bv w' v1 (x * 2 ^ k) (n + k + 1) := by
 obtain ⟨b1, p1, m1, c1, rfl⟩ := h.form
 have HA1 := hid h
 clear h
 have H := Hp.start [] w
 go_enter Tryz.func64, Tryz.ntmps64
 go_wp2_with (first | refine x_q H ?_ | (revert H; refine x_g ?_; intro g w1 hg hf H; replace hf := hf.kp))
 (refine x_c H (rnorm_ar (av HA1) (by omega)) ?_; clear H; rintro e w1 ⟨v3, rfl, hF, hB⟩ H; replace hF := hF.kp)
 obtain ⟨b3, p3, m3, c3, rfl⟩ := hB.form
 obtain ⟨hL3, hl3, hb3, hmn3⟩ := hB.parts
 have HE : Hid (sg b3 (x.natAbs * 2 ^ k) = x * 2 ^ k) := hid (by rw [sg_pow, ← hb3, sg_canon])
 have HL3 := hid hL3
 have Hl3 := hid hl3
 clear hL3 hl3 hb3 hB
 go_wp2_with (first | refine x_q H ?_ | (revert H; refine xSB ?_; intro w1 H hk))
 (revert H; refine w_pF 7 (.st 0 (.st 1 (.st 2 (.st 3 (.st 4 (.ld 5 (.ld 6 (.ld 7 .done)))))))) ?_; intro w1 hf H; (first | replace hf := hf.kp | clear hf))
 iterate 5 refine p_q ?_
 ((refine p_c H rfl rfl Tryz.func133 (shl_any (digs x.natAbs) k Hl3.out (by omega) (by omega) (lr HL3)) ?_; clear H; rintro e w1 ⟨p5, c5, o, rfl, hF, hL, hol, hvo⟩ H; refine p_r ?_; replace hF := hF.kp); have HL5 := hid hL; have Hol := hid hol; have Hvo := hid hvo; clear hL hol hvo)
 ((refine p_c H rfl rfl Tryz.func131 (make1_bv b3 o Hol.out (by omega) (lr HL5) (n + k + 1) (by omega)) ?_; clear H; rintro e w1 ⟨v6, rfl, hF, hB⟩ H; refine p_r ?_; replace hF := hF.kp); rw [Hvo.out, val_digs, HE.out] at hB; obtain ⟨b6, p6, m6, c6, rfl⟩ := hB.form; have HB6 := hid hB; clear hB)
 (revert H; refine pSB ?_; intro w1 H hk)
 (refine pl_done ?_)
 all_goals
  go_wp2_with fail
  refine c_post H rfl rfl rfl ?_
  exact ⟨_, rfl, H.fr, bv HB6⟩
theorem rshiftDown_ar {w : World} {u : Value} {x : Int} {n : Nat} (k : Nat) (h : Av w u x n) (hn : n ≤ 100000) (hk0 : 0 < k) (hk : k ≤ 1048576) :
  Calls Tryz.prog 64 #[u, .int .i64 (-(k : Int))] w fun e w' => ∃ v1, e = .returned v1 ∧ Fr [] w w' ∧ Bv w' v1 (x / 2 ^ k) n := by
 obtain ⟨b1, p1, m1, c1, rfl⟩ := h.form
 have HA1 := hid h
 have hdx := hid (dl_div (y := 2 ^ k) h.dl)
 clear h
 have h2 := hid (show (2 : Nat) ^ k ≠ 0 from Nat.pos_iff_ne_zero.1 (Nat.two_pow_pos k))
 have H := Hp.start [] w
 go_enter Tryz.func64, Tryz.ntmps64
 go_wp2_with (first | refine x_q H ?_ | (revert H; refine x_g ?_; intro g w1 hg hf H; replace hf := hf.kp))
 (refine x_c H (rnorm_ar (av HA1) (by omega)) ?_; clear H; rintro e w1 ⟨v3, rfl, hF, hB⟩ H; replace hF := hF.kp)
 obtain ⟨b3, p3, m3, c3, rfl⟩ := hB.form
 obtain ⟨hL3, hl3, hb3, hmn3⟩ := hB.parts
 have HX : Hid (x = sg b3 x.natAbs) := hid (by rw [← hb3, sg_canon])
 have HL3 := hid hL3
 have Hl3 := hid hl3
 clear hL3 hl3 hb3 hB
 obtain ⟨A, hA⟩ : ∃ A, x.natAbs = A := ⟨_, rfl⟩
 rw [hA] at HL3 Hl3 HX
 clear hA
 go_wp2_with (first | refine x_q H ?_ | (revert H; refine xSB ?_; intro w1 H hk))
 (refine x_c H (rshr_any (digs A) k Hl3.out (by omega) (by omega) (lr HL3)) ?_; clear H; rintro e w1 ⟨p5, c5, o, rfl, hF, hL, hol, hvo⟩ H; replace hF := hF.kp; have HL5 := hid hL; have Hvo := hid hvo; clear hL hvo)
 rw [val_digs] at Hvo ⊢
 have HS : Hid (x / 2 ^ k = sg b3 A / 2 ^ k) := hid (by rw [← HX.out])
 clear HX HL3 Hl3
 cases b3
 ·have HE : Hid (sg false (A / 2 ^ k) = x / 2 ^ k) := hid (by rw [HS.out, ← pow_cast]; exact (dm_plain (na := false) (nb := false) (A := A) h2.out (.inl rfl)).1.symm)
  generalize decide (A % 2 ^ k ≠ 0) = lost
  go_wp2_with (refine x_q H ?_)
  (refine x_c H (make1_bv false o rfl (by omega) (lr HL5) n (by omega)) ?_; clear H; rintro e w1 ⟨v7, rfl, hF, hB⟩ H; replace hF := hF.kp; rw [Hvo.out, HE.out] at hB; obtain ⟨b7, p7, m7, c7, rfl⟩ := hB.form; have HB7 := hid hB; clear hB)
  go_wp2_with (first | refine x_q H ?_ | (revert H; refine xSB ?_; intro w1 H hk) | (revert H; refine x_g ?_; intro g w1 hg hf H; replace hf := hf.kp))
  refine c_post H rfl rfl rfl ?_
  exact ⟨_, rfl, H.fr, bv HB7⟩
 ·by_cases hr : A % 2 ^ k = 0
  ·rw [show decide (A % 2 ^ k ≠ 0) = false by simp [hr]]
   have HE : Hid (sg true (A / 2 ^ k) = x / 2 ^ k) := hid (by rw [HS.out, ← pow_cast]; exact (dm_plain (na := true) (nb := false) (A := A) h2.out (.inr hr)).1.symm)
   clear hr
   go_wp2_with (refine x_q H ?_)
   (refine x_c H (make1_bv true o rfl (by omega) (lr HL5) n (by omega)) ?_; clear H; rintro e w1 ⟨v7, rfl, hF, hB⟩ H; replace hF := hF.kp; rw [Hvo.out, HE.out] at hB; obtain ⟨b7, p7, m7, c7, rfl⟩ := hB.form; have HB7 := hid hB; clear hB)
   go_wp2_with (first | refine x_q H ?_ | (revert H; refine xSB ?_; intro w1 H hk) | (revert H; refine x_g ?_; intro g w1 hg hf H; replace hf := hf.kp))
   refine c_post H rfl rfl rfl ?_
   exact ⟨_, rfl, H.fr, bv HB7⟩
  ·rw [show decide (A % 2 ^ k ≠ 0) = true by simp [hr]]
   have HE : Hid (sg true (A / 2 ^ k) - 1 = x / 2 ^ k) := hid (by
    have e : sg true (A / 2 ^ k) - 1 = sg true (A / 2 ^ k + 1) := by unfold sg; simp only [if_true]; omega
    rw [e, HS.out, ← pow_cast]; exact (dm_down (nb := false) (A := A) h2.out hr).1.symm)
   clear hr
   go_wp2_with (refine x_q H ?_)
   (refine x_c H (make1_bv true o rfl (by omega) (lr HL5) n (by omega)) ?_; clear H; rintro e w1 ⟨v7, rfl, hF, hB⟩ H; replace hF := hF.kp; rw [Hvo.out] at hB; obtain ⟨b7, p7, m7, c7, rfl⟩ := hB.form; have HB7 := hid hB; clear hB)
   go_wp2_with (first | refine x_q H ?_ | (revert H; refine xSB ?_; intro w1 H hk) | (revert H; refine x_g ?_; intro g w1 hg hf H; replace hf := hf.kp))
   (revert H; refine w_pF 3 (.st 0 (.ld 1 (.ld 2 (.ld 3 .done)))) ?_; intro w1 hf H; (first | replace hf := hf.kp | clear hf))
   refine p_q ?_
   ((refine p_c H rfl rfl Tryz.func67 (rfromInt_ar _ 1 (by simp [inr])) ?_; clear H; rintro e w1 ⟨v8, rfl, hF, hB⟩ H; refine p_r ?_; replace hF := hF.kp); have HB8 := hid hB; clear hB)
   ((refine p_c H rfl rfl Tryz.func128 (rsub_ar (bv HB7).ar (bv HB8).ar (by omega) (by omega)) ?_; clear H; rintro e w1 ⟨v9, rfl, hF, hB⟩ H; refine p_r ?_; replace hF := hF.kp); rw [HE.out] at hB; obtain ⟨b9, p9, m9, c9, rfl⟩ := hB.form; have HB9 := hid hB; clear hB)
   (revert H; refine pSB ?_; intro w1 H hk)
   (refine pl_done ?_)
   all_goals
    go_wp2_with (first | refine x_q H ?_ | (revert H; refine xSB ?_; intro w1 H hk))
    refine c_post H rfl rfl rfl ?_
    exact ⟨_, rfl, H.fr, ⟨(bv HB9).1, hdx.out⟩⟩
section
variable {P : Program} {ops : Array Oper} {Q : Exit → Act → World → Prop} {w w0 : World} {rest : List Oper} {o : Oper} {T : List Nat} {l : List Ent} {L : List Value} {ds : List Deferred} {K : Act → World → Prop}
theorem c_st1 (H : Hp T w0 w l) {t : TypeId} {x : Operand} {k : Nat} (ho : o.op = .store t x (.tmp k)) {b p : Nat} {v : Value} (hx : (Act.mk L.toArray ds).eval x = .pointer (some ⟨b, p, none⟩)) (hy : L[k]? = some v) (h1 : v.oneCell' = true := by rfl) [hs : Sc P t]
  {cs : List Value} {t' : TypeId} {f : Nat → List Value → List Ent} [hm : In b cs t' l f] (hp : p < cs.length := by first | decide | omega | (simp; done) | (simp; omega) | fail)
  (h3 : ∀ u ∈ cs, ∀ x, u ≠ .int .u32 x := by intro z hz x; simp only [List.mem_cons, List.not_mem_nil, or_false] at hz; rcases hz with rfl | rfl | rfl | rfl | rfl | rfl <;> (intro h; cases h))
  (h : ∀ w', Fr [b] w w' → Hp T w0 w' (f b (cs.set p v)) → (∀ p c l, LR w p c l → LR w' p c l) → K (Act.put (Act.mk L.toArray ds) o.dst undef) w') : o.wp P (Act.mk L.toArray ds) w K Q :=
 c_st H ho hx hy h1 hp (fun w' hf H1 => h w' hf H1 (fun p c l hL => hL.keep (H.at b) h3 hf))
theorem x_s1 {b : Nat} {l' : List Ent} {L' : List Value}
  (h : ∀ w', Fr [b] w w' → Hp T w0 w' l' → (∀ p c l, LR w p c l → LR w' p c l) → wpList P ops Q rest ⟨L'.toArray, ds⟩ w')
  (hw : Region.wanted o (yielded ops L.toArray) = true := by rfl)
  (he : Hp T w0 w l → ∀ K : Act → World → Prop, (∀ w', Fr [b] w w' → Hp T w0 w' l' → (∀ p c l, LR w p c l → LR w' p c l) → K (Act.put ⟨L.toArray, ds⟩ o.dst undef) w') → o.wp P ⟨L.toArray, ds⟩ w K Q := by intro H K hK; exact c_st1 H rfl rfl rfl (h := hK))
  (hs : putL L o.dst undef = L' := by ((try simp only [nrm, putL_s, putL_n, ↓reduceIte, Nat.reduceAdd]); (try exact rfl))) (H : Hp T w0 w l) : wpList P ops Q (o :: rest) ⟨L.toArray, ds⟩ w :=
 wl_rw hw fun K hK => he H K fun w' h2 h3 h4 => hK _ _ (by rw [put_eq, hs]; exact h w' h2 h3 h4)
theorem xSO {b : Nat} {l' : List Ent} {L' : List Value}
  (h : ∀ w', Hp T w0 w' l' → Kp w w' → wpList P ops Q rest ⟨L'.toArray, ds⟩ w')
  (hw : Region.wanted o (yielded ops L.toArray) = true := by rfl)
  (he : Hp T w0 w l → ∀ K : Act → World → Prop, (∀ w', Fr [b] w w' → Hp T w0 w' l' → (∀ p c l, LR w p c l → LR w' p c l) → K (Act.put ⟨L.toArray, ds⟩ o.dst undef) w') → o.wp P ⟨L.toArray, ds⟩ w K Q := by intro H K hK; exact c_st1 H rfl rfl rfl (h := hK))
  (hs : putL L o.dst undef = L' := by ((try simp only [nrm, putL_s, putL_n, ↓reduceIte, Nat.reduceAdd]); (try exact rfl))) (H : Hp T w0 w l) : wpList P ops Q (o :: rest) ⟨L.toArray, ds⟩ w := x_s1 (h := fun w' _ H k => h w' H k) (hw := hw) (he := he) (hs := hs) (H := H)
end
theorem bv_sg {w : World} {b : Bool} {p : Option Addr} {n c M k : Nat} (neg : Bool) (h : Bv w (.agg #[.bool b, .slice p n c]) (M : Int) k) (hM : 0 < M) : Bv w (.agg #[.bool neg, .slice p n c]) (sg neg M) (bl (sg neg M).natAbs) := by
 obtain ⟨hl, hn, _, _⟩ := h.parts
 have e : (sg neg M).natAbs = M := sg_abs neg M
 have e2 : decide (sg neg M < 0) = neg := by unfold sg; cases neg <;> simp <;> omega
 rw [Int.natAbs_natCast] at hl hn
 exact ⟨⟨p, c, by rw [e, hn, e2], by rw [e]; exact hl⟩, dl_bl _⟩
theorem av_sg {w : World} {b : Bool} {p : Option Addr} {n c k : Nat} {x : Int} (h : Av w (.agg #[.bool b, .slice p n c]) x k) : sg b x.natAbs = x := by
 obtain ⟨neg, l, p', c', he, _, hz, _⟩ := h
 simp at he
 obtain ⟨rfl, -⟩ := he
 rw [← hz, zv_sg, sg_abs]
theorem rshD_any {w : World} {u : Value} {x z : Int} {n : Nat} (k : Nat) (hz : z = -(k : Int)) (h : Av w u x n) (hn : n ≤ 100000) (hk : k ≤ 1048576) :
  Calls Tryz.prog 64 #[u, .int .i64 z] w fun e w' => ∃ v1, e = .returned v1 ∧ Fr [] w w' ∧ Bv w' v1 (x / 2 ^ k) (bl (x / 2 ^ k).natAbs) := by
 subst hz
 by_cases h0 : k = 0
 ·subst h0
  have e : -((0 : Nat) : Int) = ((0 : Nat) : Int) := rfl
  rw [e]
  refine Calls.mono (rshiftUp_ar 0 h hn (by omega)) ?_
  rintro e w' ⟨v1, rfl, hF, hB⟩
  rw [Int.pow_zero, Int.mul_one] at hB
  rw [Int.pow_zero, Int.ediv_one]
  exact ⟨v1, rfl, hF, hB.c⟩
 ·refine Calls.mono (rshiftDown_ar k h hn (by omega) hk) ?_
  rintro e w' ⟨v1, rfl, hF, hB⟩
  exact ⟨v1, rfl, hF, hB.c⟩
theorem rdown_any {w : World} {u : Value} {m : Nat} {z : Int} {n : Nat} (k : Nat) (hz : z = (k : Int)) (h : Av w u (m : Int) n) (hn : n ≤ 100000) (hk : k ≤ 1048576) :
  Calls Tryz.prog 168 #[u, .int .i64 z] w fun e w' => ∃ v1, e = .returned v1 ∧ Fr [] w w' ∧ Bv w' v1 ((m / 2 ^ k : Nat) : Int) (bl (m / 2 ^ k)) := by
 subst hz
 obtain ⟨b1, p1, m1, c1, rfl⟩ := h.form
 have HA1 := hid h
 have HE : Hid ((m : Int) / 2 ^ k = ((m / 2 ^ k : Nat) : Int)) := hid (by rw [Int.natCast_ediv, Int.natCast_pow]; rfl)
 clear h
 have H := Hp.start [] w
 go_enter Tryz.func168, Tryz.ntmps168
 go_wp2_with (revert H; refine x_g ?_; intro g w1 hg hf H; replace hf := hf.kp)
 rename_i ga wa hga hfa xa ya
 go_loopw [1] (fun s1 wr => s1 = .int .i64 (k : Int) ∧ Hp [] w wr [.blk g [.bool false, .slice none 0 0] 50, .blk ga [.bool b1, .slice p1 m1 c1] 50]) (fun _ _ => 0)
 case atStart => exact ⟨rfl, H⟩
 case round =>
  clear H
  obtain ⟨rfl, H⟩ := hrel
  go_wp2_with (refine x_q H ?_)
  (refine x_c H (rshD_any k rfl (HA1.out.fr H.fr) hn hk) ?_; clear H; rintro e w1 ⟨v3, rfl, hF, hB⟩ H; replace hF := hF.kp; rw [HE.out, Int.natAbs_natCast] at hB; obtain ⟨b3, p3, m3, c3, rfl⟩ := hB.form; have HB3 := hid hB; clear hB)
  go_wp2_with (revert H; refine xSF ?_; intro w1 H hk)
  refine c_post H rfl rfl rfl ?_
  exact ⟨_, rfl, H.fr, bv HB3⟩
theorem digs_none {x : Int} {m : Nat} (h : (digs x.natAbs).length = m) : (x = 0 → m = 0) ∧ (x ≠ 0 → 0 < m) := by
 constructor
 ·rintro rfl
  have : (digs (0 : Int).natAbs).length ≤ 0 := digs_len_of (by decide)
  omega
 ·intro hx
  apply Nat.pos_of_ne_zero
  intro h0
  have := digs_lt x.natAbs
  rw [h, h0] at this
  simp at this
  omega
theorem rmake_any {w : World} {u : Value} {x e : Int} {n : Nat} (h : Av w u x n) (hn : n ≤ 100000) (hb : bl x.natAbs ≤ 100000) (hx : bl x.natAbs + e ≤ 65536) (he : -65536 ≤ e) (hT : La w) :
  Calls Tryz.prog 111 #[u, .int .i64 e] w fun r w' => ∃ v1, r = .returned v1 ∧ Fr [] w w' ∧ Dn w' v1 x e := by
 obtain ⟨b1, p1, m1, c1, rfl⟩ := h.form
 have HA1 := hid h
 have HT := hid hT
 have hsg := av_sg h
 clear h hT
 have H := Hp.start [] w
 by_cases h0 : x = 0
 ·subst h0
  go_enter Tryz.func111, Tryz.ntmps111
  go_wp2_with (first | refine x_q H ?_ | (revert H; refine x_g ?_; intro g w1 hg hf H; replace hf := hf.kp))
  (refine x_c H (rnorm_ar (av HA1) (by omega)) ?_; clear H; rintro e w1 ⟨v3, rfl, hF, hB⟩ H; replace hF := hF.kp; obtain ⟨b3, p3, m3, c3, rfl⟩ := hB.form; obtain ⟨_, hl3, _, _⟩ := hB.parts; have hm3 := (digs_none hl3).1 rfl; clear hl3 hB; subst hm3)
  go_wp2_with (first | refine x_q H ?_ | (revert H; refine xSF ?_; intro w1 H hk) | (revert H; refine x_g ?_; intro g w1 hg hf H; replace hf := hf.kp))
  refine c_post H rfl rfl rfl ?_
  exact ⟨_, rfl, H.fr, 0, 0, false, none, 0, 0, rfl, .inl ⟨rfl, rfl, rfl⟩, (bv_zero _)⟩
 ·have hNM := Nm.norm (e := e) h0
  obtain ⟨z, hz⟩ : ∃ z, tz x.natAbs = z := ⟨_, rfl⟩
  obtain ⟨q, hq⟩ := tz_split x.natAbs (by omega)
  rw [hz] at hq hNM
  have hzb := tz_le _ _ (bl_lt x.natAbs)
  rw [hz] at hzb
  have hq0 : 0 < q := by
   apply Nat.pos_of_ne_zero
   intro e
   rw [e, Nat.zero_mul] at hq
   omega
  have hbq : bl x.natAbs = bl q + z := by rw [hq]; exact bl_mul_pow (by omega) z
  have hdq : x.natAbs / 2 ^ z = q := by rw [hq]; exact Nat.mul_div_cancel _ (pow2_pos z)
  have hxq : x / 2 ^ z = sg b1 q := by
   have e1 : x = sg b1 q * 2 ^ z := by rw [← sg_pow, ← hq, hsg]
   rw [e1, Int.mul_ediv_cancel _ (by have := two_pos z; omega)]
  rw [hxq] at hNM
  have HNM := hid hNM
  have HZ := hid hz
  have HDQ := hid hdq
  have HX0 := hid h0
  have hbq1 : bl x.natAbs ≤ bl q + z := by omega
  have hbq2 : bl q + z ≤ bl x.natAbs := by omega
  clear hNM hz hq hxq hdq h0 hbq hsg
  go_enter Tryz.func111, Tryz.ntmps111
  go_wp2_with (first | refine x_q H ?_ | (revert H; refine x_g ?_; intro g w1 hg hf H; replace hf := hf.kp))
  (refine x_c H (rnorm_ar (av HA1) (by omega)) ?_; clear H; rintro e w1 ⟨v3, rfl, hF, hB⟩ H; replace hF := hF.kp; obtain ⟨b3, p3, m3, c3, rfl⟩ := hB.form; obtain ⟨_, hl3, _, _⟩ := hB.parts; have hm3 := (digs_none hl3).2 HX0.out; clear hl3; have HB3 := hid hB; clear hB)
  go_wp2_with (first | refine x_q H ?_ | (revert H; refine xSF ?_; intro w1 H hk) | (revert H; refine x_g ?_; intro g w1 hg hf H; replace hf := hf.kp))
  (refine x_c H (rTrailing_ar (bv HB3).ar (by omega) (HT.out.fr H.fr).1) ?_; clear H; rintro e w1 ⟨rfl, hF⟩ H; replace hF := hF.kp; rw [HZ.out])
  go_wp2_with (refine x_q H ?_)
  (refine x_c H (rabs_ar (bv HB3).ar (by omega)) ?_; clear H; rintro e w1 ⟨v4, rfl, hF, hB⟩ H; replace hF := hF.kp; obtain ⟨b4, p4, m4, c4, rfl⟩ := hB.form; have HB4 := hid hB; clear hB)
  go_wp2_with (first | refine x_q H ?_ | (revert H; refine xSF ?_; intro w1 H hk))
  (refine x_c H (rdown_any z rfl (bv HB4).ar (by omega) (by omega)) ?_; clear H; rintro e w1 ⟨v5, rfl, hF, hB⟩ H; replace hF := hF.kp; rw [HDQ.out] at hB; obtain ⟨b5, p5, m5, c5, rfl⟩ := hB.form; have HB5 := hid hB; clear hB)
  go_wp2_with (first | refine x_q H ?_ | (revert H; refine xSF ?_; intro w1 H hk))
  (refine x_c H (rBitLen_ar (bv HB5).ar (by omega)) ?_; clear H; rintro e w1 ⟨rfl, hF⟩ H; replace hF := hF.kp; rw [Int.natAbs_natCast])
  go_wp2_with (first | refine x_q H ?_ | refine x_e (ev_dyad rfl rfl rfl) ?_ | (revert H; refine xSF ?_; intro w1 H hk) | (revert H; refine xSO ?_; intro w1 H hk))
  refine c_post H rfl rfl rfl ?_
  exact ⟨_, rfl, H.fr, _, _, _, _, _, _, rfl, HNM.out, bv_sg b1 (bv HB5) hq0⟩
theorem rnormD_any {w : World} {v : Value} {x e : Int} (h : Dn w v x e) (hb : bl x.natAbs ≤ 65536) (hx : bl x.natAbs + e ≤ 65536) (he : -65536 ≤ e) (hT : La w) :
  Calls Tryz.prog 170 #[v] w fun r w' => ∃ v1, r = .returned v1 ∧ Fr [] w w' ∧ Dn w' v1 x e := by
 obtain ⟨m1, e1, b1, p1, n1, c1, rfl, h1, h2⟩ := h
 have hl := h1.le
 have HN1 := hid h1
 have HB1 := hid h2
 have HT := hid hT
 clear h1 h2 hT
 have H := Hp.start [] w
 go_enter Tryz.func170, Tryz.ntmps170
 go_wp2_with (first | refine x_q H ?_ | refine x_l H ?_ | (revert H; refine x_g ?_; intro g w1 hg hf H; replace hf := hf.kp))
 (refine x_c H (rmake_any (bv HB1).ar (by omega) (by omega) (by omega) (by omega) (HT.out.fr H.fr)) ?_; clear H; rintro e w1 ⟨v3, rfl, hF, hD⟩ H; replace hF := hF.kp; obtain ⟨m3, e3, b3, p3, n3, c3, rfl, hN, hB⟩ := hD; have HN3 := hid hN; have HB3 := hid hB; clear hN hB)
 go_wp2_with (revert H; refine xSF ?_; intro w1 H hk)
 refine c_post H rfl rfl rfl ?_
 exact ⟨_, rfl, H.fr, _, _, _, _, _, _, rfl, HN1.out.trans HN3.out, bv HB3⟩
theorem rfromBig_any {w : World} {u : Value} {x : Int} {n : Nat} (h : Av w u x n) (hn : n ≤ 100000) (hx : bl x.natAbs ≤ 65536) (hT : La w) :
  Calls Tryz.prog 112 #[u] w fun r w' => ∃ v1, r = .returned v1 ∧ Fr [] w w' ∧ Dn w' v1 x 0 := by
 obtain ⟨b1, p1, m1, c1, rfl⟩ := h.form
 have HA1 := hid h
 have HT := hid hT
 clear h hT
 have H := Hp.start [] w
 go_enter Tryz.func112, Tryz.ntmps112
 go_wp2_with (first | refine x_q H ?_ | (revert H; refine x_g ?_; intro g w1 hg hf H; replace hf := hf.kp))
 (refine x_c H (rmake_any (av HA1) hn (by omega) (by omega) (by omega) (HT.out.fr H.fr)) ?_; clear H; rintro e w1 ⟨v3, rfl, hF, hD⟩ H; replace hF := hF.kp; obtain ⟨m3, e3, b3, p3, n3, c3, rfl, hN, hB⟩ := hD; have HN3 := hid hN; have HB3 := hid hB; clear hN hB)
 go_wp2_with (revert H; refine xSF ?_; intro w1 H hk)
 refine c_post H rfl rfl rfl ?_
 exact ⟨_, rfl, H.fr, _, _, _, _, _, _, rfl, HN3.out, bv HB3⟩
end Go.Proofs.YthbeeeclgbpopaaGreatDoor
