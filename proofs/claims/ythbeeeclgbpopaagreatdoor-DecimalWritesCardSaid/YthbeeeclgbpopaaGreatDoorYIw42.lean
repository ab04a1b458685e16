import Derived.Test.YthbeeeclgbpopaaGreatDoorYIw40
namespace Go.Proofs.YthbeeeclgbpopaaGreatDoor
open Go.RowKit
set_option linter.unusedSimpArgs false
set_option linter.unusedVariables false
set_option maxHeartbeats 8000000
set_option maxRecDepth 100000
theorem ev_shl1 {P : Program} {w : World} {a : Act} {o : Oper} {t t' : TypeId} {y : Operand} (ho : o.op = .binOp .shl t (.const (.int .u32 1)) y t') {kk : IntKind} {q M : Nat} (hy : a.eval y = .int kk (q : Int)) (hq : q < 32) (hM : Hid (2 ^ q = M)) : (execOp a.eval o).run P w = .ok (.value (.int .u32 (M : Int))) w := by
 rw [ev_shlW ho rfl hy (Int.natCast_nonneg _)]
 have e1 : (1 : Int) * 2 ^ min ((q : Int)).toNat IntKind.u32.bits = ((2 ^ q : Nat) : Int) := by
  rw [Int.toNat_natCast, show IntKind.u32.bits = 32 from rfl, Nat.min_eq_left (by omega), Int.one_mul, Int.natCast_pow]; rfl
 have h2 : 2 ^ q ≤ 2147483648 := Nat.pow_le_pow_right (n := 2) (by decide) (show q ≤ 31 by omega)
 rw [e1, hM.out, wrap_inr (by simp only [inr]; have := hM.out; omega)]
theorem ev_maskM {P : Program} {w : World} {a : Act} {o : Oper} {t t' : TypeId} {x y : Operand} (ho : o.op = .binOp .and t x y t') {m q M : Nat} (hx : a.eval x = .int .u32 (m : Int)) (hy : a.eval y = .int .u32 ((M : Int) - 1)) (hm : m < 4294967296) (hq : q < 32) (hM : Hid (2 ^ q = M)) : (execOp a.eval o).run P w = .ok (.value (.int .u32 ((m % M : Nat) : Int))) w := by
 rw [ev_andW ho hx hy]
 have h2 : 2 ^ q ≤ 2147483648 := Nat.pow_le_pow_right (n := 2) (by decide) (show q ≤ 31 by omega)
 have h1 : 1 ≤ 2 ^ q := Nat.two_pow_pos q
 have e := and_mask hm hq
 have e2 : ((2 : Int) ^ q - 1) % 4294967296 = (M : Int) - 1 := by
  rw [show (2 : Int) ^ q = ((2 ^ q : Nat) : Int) by rw [Int.natCast_pow]; rfl, hM.out]
  have := hM.out
  omega
 rw [e2] at e
 rw [e, hM.out]
theorem lost_or (u x P : Nat) (hP : 0 < P) : decide (u + P * x ≠ 0) = (decide (u ≠ 0) || decide (x ≠ 0)) := by
 by_cases h1 : u = 0
 ·by_cases h2 : x = 0
  ·subst h1 h2; rfl
  ·have h3 : P * x ≠ 0 := Nat.mul_ne_zero (by omega) h2
   generalize P * x = y at *
   rw [decide_eq_true (show u + y ≠ 0 by omega), decide_eq_true h2, Bool.or_true]
 ·generalize P * x = y at *
  rw [decide_eq_true (show u + y ≠ 0 by omega), decide_eq_true h1, Bool.true_or]
theorem lost_next {l : List Nat} {i x : Nat} (h : l[i]? = some x) : decide (val (l.take (i + 1)) ≠ 0) = (decide (val (l.take i) ≠ 0) || decide (x ≠ 0)) := by
 rw [val_take_succ h]; exact lost_or _ _ _ (Nat.pow_pos (by decide))
theorem lost_mod {l : List Nat} (h : Lim l) {W x q M : Nat} (hx : l[W]? = some x) (hq : q < 32) (hM : 2 ^ q = M) : decide (val l % (4294967296 ^ W * 2 ^ q) ≠ 0) = (decide (val (l.take W) ≠ 0) || decide (x % M ≠ 0)) := by
 rw [down_mod h hx hq, hM]; exact lost_or _ _ _ (Nat.pow_pos (by decide))
theorem digW {l : List Nat} (h : Lim l) {s W q t Z : Nat} (hs : 2 ^ s = 4294967296 ^ W * 2 ^ q) (hq : q < 32) (hz : val (l.drop (W + t)) % 18446744073709551616 = Z) : Z / 2 ^ q % 4294967296 = val l / 2 ^ s / 4294967296 ^ t % 4294967296 := by
 rw [hs]; exact (down_dig h hq hz).symm
theorem shr_fits {l : List Nat} (h : Lim l) {s W q t : Nat} (hs : 2 ^ s = 4294967296 ^ W * 2 ^ q) (ht : W + t = l.length) : val l / 2 ^ s < 4294967296 ^ t := by
 have h1 := val_lt h
 rw [← ht, Nat.pow_add] at h1
 rw [Nat.div_lt_iff_lt_mul (Nat.two_pow_pos s), hs]
 have hq : 1 ≤ 2 ^ q := Nat.two_pow_pos q
 calc val l < 4294967296 ^ W * 4294967296 ^ t := h1
  _ ≤ 4294967296 ^ W * 4294967296 ^ t * 2 ^ q := Nat.le_mul_of_pos_right _ hq
  _ = 4294967296 ^ t * (4294967296 ^ W * 2 ^ q) := by rw [Nat.mul_comm (4294967296 ^ W), Nat.mul_assoc]
theorem shr_out {w : World} {p : Option Addr} {n c : Nat} (a : List Nat) (s : Nat) (hn : a.length = n) (hn0 : n ≤ 1000000) (hs : s ≤ 128000000) (hov : n ≤ s / 32) (h : LR w p c a) :
  Calls Tryz.prog 134 #[.slice p n c, .int .i64 (s : Int)] w fun e w' => ∃ p' c' o, e = .returned (.tuple #[.slice p' (List.length o) c', .bool (decide (val a % 2 ^ s ≠ 0))]) ∧ Fr [] w w' ∧ LR w' p' c' o ∧ o.length ≤ n ∧ val o = val a / 2 ^ s := by
 subst hn
 have Hh := hid h
 obtain ⟨hlc, hcc⟩ := h.clen
 obtain ⟨W, hW⟩ : ∃ W, s / 32 = W := ⟨_, rfl⟩
 have HW : (s : Int) / 32 = (W : Int) := by omega
 have HZ : Hid (val a / 2 ^ s = 0 ∧ val a % 2 ^ s = val a) := hid (by
  have h0 := val_lt h.lim
  have h1 : 4294967296 ^ a.length ≤ 4294967296 ^ W := Nat.pow_le_pow_right (by decide) (by omega)
  have h2 : 4294967296 ^ W ≤ 2 ^ s := by rw [powB]; exact Nat.pow_le_pow_right (by decide) (by omega)
  exact ⟨Nat.div_eq_of_lt (by omega), Nat.mod_eq_of_lt (by omega)⟩)
 rw [hW] at hov
 clear h hW
 have H := (Hp.start [] w).newRow 0 (e := 99) (sz := 1)
 go_enter Tryz.func134, Tryz.ntmps134
 go_wp2_with fail
 go_loopw [6, 7] (fun s6 s7 wr => ∃ (i : Nat) (lost : Bool), i ≤ W ∧ i ≤ a.length ∧ s6 = .bool lost ∧ s7 = .int .i64 (i : Int) ∧ Hid (lost = decide (val (a.take i) ≠ 0)) ∧ Hp [] w wr [.obj 0 [] (RowAt 99 1 (.slice none 0 0) 0 [] [])]) (fun _ v _ => a.length - (intOf v).toNat)
 case atStart => exact ⟨0, false, Nat.zero_le _, Nat.zero_le _, rfl, rfl, hid rfl, H⟩
 case round =>
  clear H
  obtain ⟨i, lost, hiW, hil, rfl, rfl, Hlost, H⟩ := hrel
  by_cases hin : i < W ∧ i < a.length
  ·obtain ⟨hin1, hin2⟩ := hin
   obtain ⟨x, hx⟩ : ∃ x, a[i]? = some x := ⟨_, List.getElem?_eq_getElem hin2⟩
   have hxv := limbs_at hx
   have hxB := Hh.out.lim.at hx
   have HN := hid (lost_next hx)
   clear hx
   obtain ⟨b0, off, rfl, hb0, hcell⟩ := Hh.out.rd.rng (limbs_ne (i := i) hin2)
   have H1 := H.pushRng (b := b0) (off := off) hb0 (by simp) hcell
   clear H hcell
   have H := H1
   clear H1
   cases lost
   ·by_cases hx0 : x = 0
    ·subst hx0
     go_wp2_with (refine x_q H ?_)
     go_roundw
     case rel => exact ⟨i + 1, false, by omega, by omega, rfl, by go_num, hid (by rw [HN.out, ← Hlost.out]; rfl), H.sub (by repeat first | exact List.Sublist.refl _ | exact List.nil_sublist _ | apply List.Sublist.cons_cons | apply List.Sublist.cons)⟩
     case measure => (simp [intOf]; try omega)
    ·have HX : Hid (decide (x ≠ 0) = true) := hid (decide_eq_true hx0)
     have hx1 : 0 < x := by omega
     clear hx0
     go_wp2_with (refine x_q H ?_)
     go_roundw
     case rel => exact ⟨i + 1, true, by omega, by omega, rfl, by go_num, hid (by rw [HN.out, HX.out]; simp), H.sub (by repeat first | exact List.Sublist.refl _ | exact List.nil_sublist _ | apply List.Sublist.cons_cons | apply List.Sublist.cons)⟩
     case measure => (simp [intOf]; try omega)
   ·go_wp2_with (refine x_q H ?_)
    go_roundw
    case rel => exact ⟨i + 1, true, by omega, by omega, rfl, by go_num, hid (by rw [HN.out, ← Hlost.out]; rfl), H.sub (by repeat first | exact List.Sublist.refl _ | exact List.nil_sublist _ | apply List.Sublist.cons_cons | apply List.Sublist.cons)⟩
    case measure => (simp [intOf]; try omega)
  ·have ei : i = a.length := by omega
   subst ei
   have HF : Hid (lost = decide (val a % 2 ^ s ≠ 0)) := hid (by rw [HZ.out.2, Hlost.out, List.take_length])
   clear hin
   by_cases hlW : a.length < W
   all_goals
    go_wp2_with (refine x_q H ?_)
    rw [HW]
    go_loopw [6, 8, 10] (fun s6 s8 s10 wr => s6 = .bool lost ∧ s8 = .slice none 0 0 ∧ s10 = .int .i64 (W : Int) ∧ Hp [] w wr [.obj 0 [] (RowAt 99 1 (.slice none 0 0) 0 [] [])]) (fun _ _ _ _ => 0)
    case atStart => exact ⟨rfl, rfl, rfl, H⟩
    case round =>
     clear H
     obtain ⟨rfl, rfl, rfl, H⟩ := hrel
     go_wp2_with (refine x_q H ?_)
     refine bodyPost_ret (results_tmp2 rfl _ _ _) rfl ?_
     rw [HF.out]
     exact ⟨none, 0, [], rfl, H.fr, LR.zero _, Nat.zero_le _, HZ.out.1.symm⟩
theorem shr_in {w : World} {p : Option Addr} {n c : Nat} (a : List Nat) (s : Nat) (hn : a.length = n) (hn0 : n ≤ 1000000) (hs : s ≤ 128000000) (hov : s / 32 < n) (h : LR w p c a) :
  Calls Tryz.prog 134 #[.slice p n c, .int .i64 (s : Int)] w fun e w' => ∃ p' c' o, e = .returned (.tuple #[.slice p' (List.length o) c', .bool (decide (val a % 2 ^ s ≠ 0))]) ∧ Fr [] w w' ∧ LR w' p' c' o ∧ o.length ≤ n ∧ val o = val a / 2 ^ s := by
 subst hn
 have Hh := hid h
 obtain ⟨hlc, hcc⟩ := h.clen
 obtain ⟨W, hW⟩ : ∃ W, s / 32 = W := ⟨_, rfl⟩
 obtain ⟨q, hq⟩ : ∃ q, s % 32 = q := ⟨_, rfl⟩
 obtain ⟨M, hM⟩ : ∃ M, 2 ^ q = M := ⟨_, rfl⟩
 have hq32 : q < 32 := by omega
 have HS : Hid (s = 32 * W + q) := hid (by omega)
 have HW : (s : Int) / 32 = (W : Int) := by omega
 have HQ : (s : Int) % 32 = (q : Int) := by omega
 have HP : Hid (2 ^ s = 4294967296 ^ W * 2 ^ q) := hid (by rw [HS.out, Nat.pow_add, powB])
 have hM1 : 1 ≤ M := by rw [← hM]; exact Nat.two_pow_pos q
 have hM2 : M ≤ 2147483648 := by rw [← hM]; exact Nat.pow_le_pow_right (n := 2) (by decide) (show q ≤ 31 by omega)
 have HM := hid hM
 rw [hW] at hov
 clear h hW hq hM
 have H := (Hp.start [] w).newRow 0 (e := 99) (sz := 1)
 go_enter Tryz.func134, Tryz.ntmps134
 go_wp2_with fail
 go_loopw [6, 7] (fun s6 s7 wr => ∃ (i : Nat) (lost : Bool), i ≤ W ∧ i ≤ a.length ∧ s6 = .bool lost ∧ s7 = .int .i64 (i : Int) ∧ Hid (lost = decide (val (a.take i) ≠ 0)) ∧ Hp [] w wr [.obj 0 [] (RowAt 99 1 (.slice none 0 0) 0 [] [])]) (fun _ v _ => a.length - (intOf v).toNat)
 case atStart => exact ⟨0, false, Nat.zero_le _, Nat.zero_le _, rfl, rfl, hid rfl, H⟩
 case round =>
  clear H
  obtain ⟨i, lost, hiW, hil, rfl, rfl, Hlost, H⟩ := hrel
  by_cases hin : i < W ∧ i < a.length
  ·obtain ⟨hin1, hin2⟩ := hin
   obtain ⟨x, hx⟩ : ∃ x, a[i]? = some x := ⟨_, List.getElem?_eq_getElem hin2⟩
   have hxv := limbs_at hx
   have hxB := Hh.out.lim.at hx
   have HN := hid (lost_next hx)
   clear hx
   obtain ⟨b0, off, rfl, hb0, hcell⟩ := Hh.out.rd.rng (limbs_ne (i := i) hin2)
   have H1 := H.pushRng (b := b0) (off := off) hb0 (by simp) hcell
   clear H hcell
   have H := H1
   clear H1
   cases lost
   ·by_cases hx0 : x = 0
    ·subst hx0
     go_wp2_with (refine x_q H ?_)
     go_roundw
     case rel => exact ⟨i + 1, false, by omega, by omega, rfl, by go_num, hid (by rw [HN.out, ← Hlost.out]; rfl), H.sub (by repeat first | exact List.Sublist.refl _ | exact List.nil_sublist _ | apply List.Sublist.cons_cons | apply List.Sublist.cons)⟩
     case measure => (simp [intOf]; try omega)
    ·have HX : Hid (decide (x ≠ 0) = true) := hid (decide_eq_true hx0)
     have hx1 : 0 < x := by omega
     clear hx0
     go_wp2_with (refine x_q H ?_)
     go_roundw
     case rel => exact ⟨i + 1, true, by omega, by omega, rfl, by go_num, hid (by rw [HN.out, HX.out]; simp), H.sub (by repeat first | exact List.Sublist.refl _ | exact List.nil_sublist _ | apply List.Sublist.cons_cons | apply List.Sublist.cons)⟩
     case measure => (simp [intOf]; try omega)
   ·go_wp2_with (refine x_q H ?_)
    go_roundw
    case rel => exact ⟨i + 1, true, by omega, by omega, rfl, by go_num, hid (by rw [HN.out, ← Hlost.out]; rfl), H.sub (by repeat first | exact List.Sublist.refl _ | exact List.nil_sublist _ | apply List.Sublist.cons_cons | apply List.Sublist.cons)⟩
    case measure => (simp [intOf]; try omega)
  ·have ei : i = W := by omega
   subst ei
   clear hin hiW hil
   go_wp2_with (refine x_q H ?_)
   rw [HW, HQ]
   go_loopw [6, 8, 10] (fun s6 s8 s10 wr => ∃ (k t : Nat) (o : List Nat) (lost : Bool) (pv : Value) (S : List Nat), k ≤ a.length ∧ k ≤ i + t ∧ i + t ≤ k ∧ s10 = .int .i64 (k : Int) ∧ s6 = .bool lost ∧ s8 = pv ∧ Hid (o.length = t) ∧ Hid (Lim o) ∧ Hid (∀ j y, o[j]? = some y → y = val a / 2 ^ s / 4294967296 ^ j % 4294967296) ∧ Hid (lost = if t = 0 then decide (val (a.take i) ≠ 0) else decide (val a % 2 ^ s ≠ 0)) ∧ Hp [] w wr [.obj 0 S (RowAt 99 1 pv t (limbs o) S)]) (fun _ _ v _ => a.length - (intOf v).toNat)
   case atStart => exact ⟨i, 0, [], lost, _, _, by omega, by omega, by omega, rfl, rfl, rfl, hid rfl, hid Lim.nil, hid (fun j y h => by simp at h), hid (by rw [if_pos rfl]; exact Hlost.out), H⟩
   case round =>
    clear H Hlost
    obtain ⟨k, t, o, lost, pv, S, hi, hk1, hk2, rfl, rfl, hpv, Hol, Hlo, Hv, Hlost, H⟩ := hrel
    obtain ⟨p5, c5, he, _, hc5, _⟩ := (H.rowo 0).form
    unfold maxLen at hc5
    subst he
    subst hpv
    by_cases hin : k < a.length
    ·obtain ⟨x, hx⟩ : ∃ x, a[k]? = some x := ⟨_, List.getElem?_eq_getElem hin⟩
     have hxv := limbs_at hx
     have hxB := Hh.out.lim.at hx
     have Hx := hid hx
     clear hx
     obtain ⟨b0, off, rfl, hb0, hcell⟩ := Hh.out.rd.rng (limbs_ne (i := k) hin)
     have H1 := H.pushRng (b := b0) (off := off) hb0 (by simp) hcell
     clear H hcell
     have H := H1
     clear H1
     by_cases hin2 : k + 1 < a.length
     ·obtain ⟨y, hy⟩ : ∃ y, a[k + 1]? = some y := ⟨_, List.getElem?_eq_getElem hin2⟩
      have hyv := limbs_at hy
      have hyB := Hh.out.lim.at hy
      have Hy := hid hy
      clear hy
      go_wp2_with (first | refine x_q H ?_ | refine x_e (ev_over rfl rfl) ?_ | refine x_e (ev_orK rfl rfl rfl) ?_)
      by_cases ht0 : t = 0
      ·have ht1 : t ≤ 0 := by omega
       have HL0 : Hid (lost = decide (val (a.take i) ≠ 0)) := hid (by have := Hlost.out; rwa [if_pos ht0] at this)
       clear ht0
       have HLM : Hid (decide (val a % 2 ^ s ≠ 0) = (decide (val (a.take i) ≠ 0) || decide (x % M ≠ 0))) := hid (by rw [HP.out]; exact lost_mod Hh.out.lim (show a[i]? = some x by rw [show i = k by omega]; exact Hx.out) hq32 HM.out)
       by_cases hm : x % M = 0
       ·have HLN : Hid (lost = decide (val a % 2 ^ s ≠ 0)) := hid (by rw [HLM.out, HL0.out, hm]; simp)
        have hm1 : ((x % M : Nat) : Int) ≤ 0 := by omega
        have hm2 : 0 ≤ ((x % M : Nat) : Int) := Int.natCast_nonneg _
        clear hm
        (revert H; refine w_p 15 (.st 0 (.st 1 (.st 2 (.st 3 (.st 4 (.st 5 (.st 6 (.st 7 (.st 8 (.st 9 (.st 10 (.st 11 (.st 12 (.st 13 (.st 14 .done))))))))))))))) ?_; intro w1 H)
        iterate 5 refine p_q ?_
        iterate 5 (first | refine p_q ?_ | refine p_n ?_)
        (refine p_e rfl (fun w H => ev_shl1 rfl rfl hq32 HM) ?_)
        (first | refine p_q ?_ | refine p_n ?_)
        (refine p_e rfl (fun w H => ev_maskM rfl rfl rfl hxB hq32 HM) ?_)
        (first | refine p_q ?_ | refine p_n ?_)
        refine p_q ?_
        (refine pl_done ?_)
        all_goals
         go_wp2_with (first | refine x_q H ?_ | (refine is_blt (b := .append) rfl ?_; go_loud (refine wl_rw rfl (fun K hK => c_aprS H rfl rfl rfl 0 (H.rd (b := g) (off := 0) (vs := [.int .u32 (((x : Int) + (y : Int) * 4294967296) / 2 ^ q % 4294967296)]) List.prefix_rfl) rfl (by intro u hu; simp only [List.mem_singleton] at hu; subst hu; rfl) (by omega) (by unfold maxLen; omega) (fun p1 c1 w1 S' hf H1 => hK _ _ ?_))); (clear hK K); (clear H; have H := H1; clear H1; (try dsimp only at H); clear hf); (simp only [nrm, ↓reduceIte, Nat.reduceAdd])) | (revert H; refine x_g ?_; intro g w1 hg hf H; clear hf))
        all_goals
         rw [shr_two q, limbs_snoc] at H
         go_roundw
         case rel => exact ⟨k + 1, t + 1, o ++ [(x + y * 4294967296) / 2 ^ q % 4294967296], lost, _, S', by omega, by omega, by omega, by go_num, rfl, rfl, hid (by rw [List.length_append, Hol.out]; rfl), hid (Hlo.out.app (Lim.cons (Nat.mod_lt _ (by decide)) Lim.nil)), hid (snoc_upto (f := fun j => val a / 2 ^ s / 4294967296 ^ j % 4294967296) Hol.out Hv.out (digW Hh.out.lim HP.out hq32 (by rw [show i + t = k by omega]; exact drop_two Hh.out.lim Hx.out Hy.out))), hid (by rw [if_neg (by omega)]; exact HLN.out), H.sub (by repeat first | exact List.Sublist.refl _ | exact List.nil_sublist _ | apply List.Sublist.cons_cons | apply List.Sublist.cons)⟩
         case measure => (simp [intOf]; try omega)
       ·have HLN : Hid (true = decide (val a % 2 ^ s ≠ 0)) := hid (by rw [HLM.out, decide_eq_true hm, Bool.or_true])
        have hm1 : 0 < ((x % M : Nat) : Int) := by omega
        clear hm
        (revert H; refine w_p 15 (.st 0 (.st 1 (.st 2 (.st 3 (.st 4 (.st 5 (.st 6 (.st 7 (.st 8 (.st 9 (.st 10 (.st 11 (.st 12 (.st 13 (.st 14 .done))))))))))))))) ?_; intro w1 H)
        iterate 5 refine p_q ?_
        iterate 5 (first | refine p_q ?_ | refine p_n ?_)
        (refine p_e rfl (fun w H => ev_shl1 rfl rfl hq32 HM) ?_)
        (first | refine p_q ?_ | refine p_n ?_)
        (refine p_e rfl (fun w H => ev_maskM rfl rfl rfl hxB hq32 HM) ?_)
        (first | refine p_q ?_ | refine p_n ?_)
        refine p_q ?_
        (refine pl_done ?_)
        all_goals
         go_wp2_with (first | refine x_q H ?_ | (refine is_blt (b := .append) rfl ?_; go_loud (refine wl_rw rfl (fun K hK => c_aprS H rfl rfl rfl 0 (H.rd (b := g) (off := 0) (vs := [.int .u32 (((x : Int) + (y : Int) * 4294967296) / 2 ^ q % 4294967296)]) List.prefix_rfl) rfl (by intro u hu; simp only [List.mem_singleton] at hu; subst hu; rfl) (by omega) (by unfold maxLen; omega) (fun p1 c1 w1 S' hf H1 => hK _ _ ?_))); (clear hK K); (clear H; have H := H1; clear H1; (try dsimp only at H); clear hf); (simp only [nrm, ↓reduceIte, Nat.reduceAdd])) | (revert H; refine x_g ?_; intro g w1 hg hf H; clear hf))
        all_goals
         rw [shr_two q, limbs_snoc] at H
         go_roundw
         case rel => exact ⟨k + 1, t + 1, o ++ [(x + y * 4294967296) / 2 ^ q % 4294967296], true, _, S', by omega, by omega, by omega, by go_num, rfl, rfl, hid (by rw [List.length_append, Hol.out]; rfl), hid (Hlo.out.app (Lim.cons (Nat.mod_lt _ (by decide)) Lim.nil)), hid (snoc_upto (f := fun j => val a / 2 ^ s / 4294967296 ^ j % 4294967296) Hol.out Hv.out (digW Hh.out.lim HP.out hq32 (by rw [show i + t = k by omega]; exact drop_two Hh.out.lim Hx.out Hy.out))), hid (by rw [if_neg (by omega)]; exact HLN.out), H.sub (by repeat first | exact List.Sublist.refl _ | exact List.nil_sublist _ | apply List.Sublist.cons_cons | apply List.Sublist.cons)⟩
         case measure => (simp [intOf]; try omega)
      ·have HLN : Hid (lost = decide (val a % 2 ^ s ≠ 0)) := hid (by have := Hlost.out; rwa [if_neg ht0] at this)
       (revert H; refine w_p 15 (.st 0 (.st 1 (.st 2 (.st 3 (.st 4 (.st 5 (.st 6 (.st 7 (.st 8 (.st 9 (.st 10 (.st 11 (.st 12 (.st 13 (.st 14 .done))))))))))))))) ?_; intro w1 H)
       iterate 5 refine p_q ?_
       iterate 5 (first | refine p_q ?_ | refine p_n ?_)
       (first | (refine p_e rfl (fun w H => ev_shl8 rfl rfl (by first | assumption | omega) (by first | assumption | omega)) ?_) | refine p_n ?_)
       iterate 3 (first | refine p_q ?_ | refine p_n ?_)
       refine p_q ?_
       (refine pl_done ?_)
       all_goals
        go_wp2_with (first | refine x_q H ?_ | (refine is_blt (b := .append) rfl ?_; go_loud (refine wl_rw rfl (fun K hK => c_aprS H rfl rfl rfl 0 (H.rd (b := g) (off := 0) (vs := [.int .u32 (((x : Int) + (y : Int) * 4294967296) / 2 ^ q % 4294967296)]) List.prefix_rfl) rfl (by intro u hu; simp only [List.mem_singleton] at hu; subst hu; rfl) (by omega) (by unfold maxLen; omega) (fun p1 c1 w1 S' hf H1 => hK _ _ ?_))); (clear hK K); (clear H; have H := H1; clear H1; (try dsimp only at H); clear hf); (simp only [nrm, ↓reduceIte, Nat.reduceAdd])) | (revert H; refine x_g ?_; intro g w1 hg hf H; clear hf))
       all_goals
        rw [shr_two q, limbs_snoc] at H
        go_roundw
        case rel => exact ⟨k + 1, t + 1, o ++ [(x + y * 4294967296) / 2 ^ q % 4294967296], lost, _, S', by omega, by omega, by omega, by go_num, rfl, rfl, hid (by rw [List.length_append, Hol.out]; rfl), hid (Hlo.out.app (Lim.cons (Nat.mod_lt _ (by decide)) Lim.nil)), hid (snoc_upto (f := fun j => val a / 2 ^ s / 4294967296 ^ j % 4294967296) Hol.out Hv.out (digW Hh.out.lim HP.out hq32 (by rw [show i + t = k by omega]; exact drop_two Hh.out.lim Hx.out Hy.out))), hid (by rw [if_neg (by omega)]; exact HLN.out), H.sub (by repeat first | exact List.Sublist.refl _ | exact List.nil_sublist _ | apply List.Sublist.cons_cons | apply List.Sublist.cons)⟩
        case measure => (simp [intOf]; try omega)
     ·go_wp2_with (refine x_q H ?_)
      by_cases ht0 : t = 0
      ·have ht1 : t ≤ 0 := by omega
       have HL0 : Hid (lost = decide (val (a.take i) ≠ 0)) := hid (by have := Hlost.out; rwa [if_pos ht0] at this)
       clear ht0
       have HLM : Hid (decide (val a % 2 ^ s ≠ 0) = (decide (val (a.take i) ≠ 0) || decide (x % M ≠ 0))) := hid (by rw [HP.out]; exact lost_mod Hh.out.lim (show a[i]? = some x by rw [show i = k by omega]; exact Hx.out) hq32 HM.out)
       by_cases hm : x % M = 0
       ·have HLN : Hid (lost = decide (val a % 2 ^ s ≠ 0)) := hid (by rw [HLM.out, HL0.out, hm]; simp)
        have hm1 : ((x % M : Nat) : Int) ≤ 0 := by omega
        have hm2 : 0 ≤ ((x % M : Nat) : Int) := Int.natCast_nonneg _
        clear hm
        (revert H; refine w_p 15 (.st 0 (.st 1 (.st 2 (.st 3 (.st 4 (.st 5 (.st 6 (.st 7 (.st 8 (.st 9 (.st 10 (.st 11 (.st 12 (.st 13 (.st 14 .done))))))))))))))) ?_; intro w1 H)
        iterate 5 refine p_q ?_
        iterate 5 (first | refine p_q ?_ | refine p_n ?_)
        (refine p_e rfl (fun w H => ev_shl1 rfl rfl hq32 HM) ?_)
        (first | refine p_q ?_ | refine p_n ?_)
        (refine p_e rfl (fun w H => ev_maskM rfl rfl rfl hxB hq32 HM) ?_)
        (first | refine p_q ?_ | refine p_n ?_)
        refine p_q ?_
        (refine pl_done ?_)
        all_goals
         go_wp2_with (first | refine x_q H ?_ | (refine is_blt (b := .append) rfl ?_; go_loud (refine wl_rw rfl (fun K hK => c_aprS H rfl rfl rfl 0 (H.rd (b := g) (off := 0) (vs := [.int .u32 ((x : Int) / 2 ^ q % 4294967296)]) List.prefix_rfl) rfl (by intro u hu; simp only [List.mem_singleton] at hu; subst hu; rfl) (by omega) (by unfold maxLen; omega) (fun p1 c1 w1 S' hf H1 => hK _ _ ?_))); (clear hK K); (clear H; have H := H1; clear H1; (try dsimp only at H); clear hf); (simp only [nrm, ↓reduceIte, Nat.reduceAdd])) | (revert H; refine x_g ?_; intro g w1 hg hf H; clear hf))
        all_goals
         rw [shr_one q, limbs_snoc] at H
         go_roundw
         case rel => exact ⟨k + 1, t + 1, o ++ [x / 2 ^ q % 4294967296], lost, _, S', by omega, by omega, by omega, by go_num, rfl, rfl, hid (by rw [List.length_append, Hol.out]; rfl), hid (Hlo.out.app (Lim.cons (Nat.mod_lt _ (by decide)) Lim.nil)), hid (snoc_upto (f := fun j => val a / 2 ^ s / 4294967296 ^ j % 4294967296) Hol.out Hv.out (digW Hh.out.lim HP.out hq32 (by rw [show i + t = k by omega]; exact drop_one Hh.out.lim Hx.out (by omega)))), hid (by rw [if_neg (by omega)]; exact HLN.out), H.sub (by repeat first | exact List.Sublist.refl _ | exact List.nil_sublist _ | apply List.Sublist.cons_cons | apply List.Sublist.cons)⟩
         case measure => (simp [intOf]; try omega)
       ·have HLN : Hid (true = decide (val a % 2 ^ s ≠ 0)) := hid (by rw [HLM.out, decide_eq_true hm, Bool.or_true])
        have hm1 : 0 < ((x % M : Nat) : Int) := by omega
        clear hm
        (revert H; refine w_p 15 (.st 0 (.st 1 (.st 2 (.st 3 (.st 4 (.st 5 (.st 6 (.st 7 (.st 8 (.st 9 (.st 10 (.st 11 (.st 12 (.st 13 (.st 14 .done))))))))))))))) ?_; intro w1 H)
        iterate 5 refine p_q ?_
        iterate 5 (first | refine p_q ?_ | refine p_n ?_)
        (refine p_e rfl (fun w H => ev_shl1 rfl rfl hq32 HM) ?_)
        (first | refine p_q ?_ | refine p_n ?_)
        (refine p_e rfl (fun w H => ev_maskM rfl rfl rfl hxB hq32 HM) ?_)
        (first | refine p_q ?_ | refine p_n ?_)
        refine p_q ?_
        (refine pl_done ?_)
        all_goals
         go_wp2_with (first | refine x_q H ?_ | (refine is_blt (b := .append) rfl ?_; go_loud (refine wl_rw rfl (fun K hK => c_aprS H rfl rfl rfl 0 (H.rd (b := g) (off := 0) (vs := [.int .u32 ((x : Int) / 2 ^ q % 4294967296)]) List.prefix_rfl) rfl (by intro u hu; simp only [List.mem_singleton] at hu; subst hu; rfl) (by omega) (by unfold maxLen; omega) (fun p1 c1 w1 S' hf H1 => hK _ _ ?_))); (clear hK K); (clear H; have H := H1; clear H1; (try dsimp only at H); clear hf); (simp only [nrm, ↓reduceIte, Nat.reduceAdd])) | (revert H; refine x_g ?_; intro g w1 hg hf H; clear hf))
        all_goals
         rw [shr_one q, limbs_snoc] at H
         go_roundw
         case rel => exact ⟨k + 1, t + 1, o ++ [x / 2 ^ q % 4294967296], true, _, S', by omega, by omega, by omega, by go_num, rfl, rfl, hid (by rw [List.length_append, Hol.out]; rfl), hid (Hlo.out.app (Lim.cons (Nat.mod_lt _ (by decide)) Lim.nil)), hid (snoc_upto (f := fun j => val a / 2 ^ s / 4294967296 ^ j % 4294967296) Hol.out Hv.out (digW Hh.out.lim HP.out hq32 (by rw [show i + t = k by omega]; exact drop_one Hh.out.lim Hx.out (by omega)))), hid (by rw [if_neg (by omega)]; exact HLN.out), H.sub (by repeat first | exact List.Sublist.refl _ | exact List.nil_sublist _ | apply List.Sublist.cons_cons | apply List.Sublist.cons)⟩
         case measure => (simp [intOf]; try omega)
      ·have HLN : Hid (lost = decide (val a % 2 ^ s ≠ 0)) := hid (by have := Hlost.out; rwa [if_neg ht0] at this)
       (revert H; refine w_p 15 (.st 0 (.st 1 (.st 2 (.st 3 (.st 4 (.st 5 (.st 6 (.st 7 (.st 8 (.st 9 (.st 10 (.st 11 (.st 12 (.st 13 (.st 14 .done))))))))))))))) ?_; intro w1 H)
       iterate 5 refine p_q ?_
       iterate 5 (first | refine p_q ?_ | refine p_n ?_)
       (first | (refine p_e rfl (fun w H => ev_shl8 rfl rfl (by first | assumption | omega) (by first | assumption | omega)) ?_) | refine p_n ?_)
       iterate 3 (first | refine p_q ?_ | refine p_n ?_)
       refine p_q ?_
       (refine pl_done ?_)
       all_goals
        go_wp2_with (first | refine x_q H ?_ | (refine is_blt (b := .append) rfl ?_; go_loud (refine wl_rw rfl (fun K hK => c_aprS H rfl rfl rfl 0 (H.rd (b := g) (off := 0) (vs := [.int .u32 ((x : Int) / 2 ^ q % 4294967296)]) List.prefix_rfl) rfl (by intro u hu; simp only [List.mem_singleton] at hu; subst hu; rfl) (by omega) (by unfold maxLen; omega) (fun p1 c1 w1 S' hf H1 => hK _ _ ?_))); (clear hK K); (clear H; have H := H1; clear H1; (try dsimp only at H); clear hf); (simp only [nrm, ↓reduceIte, Nat.reduceAdd])) | (revert H; refine x_g ?_; intro g w1 hg hf H; clear hf))
       all_goals
        rw [shr_one q, limbs_snoc] at H
        go_roundw
        case rel => exact ⟨k + 1, t + 1, o ++ [x / 2 ^ q % 4294967296], lost, _, S', by omega, by omega, by omega, by go_num, rfl, rfl, hid (by rw [List.length_append, Hol.out]; rfl), hid (Hlo.out.app (Lim.cons (Nat.mod_lt _ (by decide)) Lim.nil)), hid (snoc_upto (f := fun j => val a / 2 ^ s / 4294967296 ^ j % 4294967296) Hol.out Hv.out (digW Hh.out.lim HP.out hq32 (by rw [show i + t = k by omega]; exact drop_one Hh.out.lim Hx.out (by omega)))), hid (by rw [if_neg (by omega)]; exact HLN.out), H.sub (by repeat first | exact List.Sublist.refl _ | exact List.nil_sublist _ | apply List.Sublist.cons_cons | apply List.Sublist.cons)⟩
        case measure => (simp [intOf]; try omega)
    ·have ei : i + t = a.length := by omega
     have hval : val o = val a / 2 ^ s := by
      rw [digits_val Hv.out, Hol.out]
      exact Nat.mod_eq_of_lt (shr_fits Hh.out.lim HP.out ei)
     have Hval := hid hval
     have HF : Hid (lost = decide (val a % 2 ^ s ≠ 0)) := hid (by have := Hlost.out; rwa [if_neg (by omega)] at this)
     clear hval
     go_wp2_with (refine x_q H ?_)
     obtain ⟨p6, c6, e6, e7, hL⟩ := LR.of_row (H.rowo 0) Hlo.out
     injection e6 with e61 e62 e63
     subst e61 e63
     refine bodyPost_ret (results_tmp2 rfl _ _ _) rfl ?_
     rw [HF.out]
     exact ⟨_, _, o, by rw [Hol.out]; rfl, H.fr, hL, by rw [Hol.out]; omega, Hval.out⟩
theorem rshr_any {w : World} {p : Option Addr} {n c : Nat} (a : List Nat) (s : Nat) (hn : a.length = n) (hn0 : n ≤ 1000000) (hs : s ≤ 128000000) (h : LR w p c a) :
  Calls Tryz.prog 134 #[.slice p n c, .int .i64 (s : Int)] w fun e w' => ∃ p' c' o, e = .returned (.tuple #[.slice p' (List.length o) c', .bool (decide (val a % 2 ^ s ≠ 0))]) ∧ Fr [] w w' ∧ LR w' p' c' o ∧ o.length ≤ n ∧ val o = val a / 2 ^ s := by
 by_cases hov : n ≤ s / 32
 ·exact shr_out a s hn hn0 hs hov h
 ·exact shr_in a s hn hn0 hs (by omega) h
end Go.Proofs.YthbeeeclgbpopaaGreatDoor
