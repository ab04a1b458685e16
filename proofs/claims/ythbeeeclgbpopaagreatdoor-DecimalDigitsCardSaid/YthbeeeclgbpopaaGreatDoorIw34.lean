/-
  The integers: Format.
-/
import Derived.Test.YthbeeeclgbpopaaGreatDoorIw15n
namespace Go.Proofs.YthbeeeclgbpopaaGreatDoor
open Go.RowKit
set_option linter.unusedSimpArgs false
set_option linter.unusedVariables false
set_option maxHeartbeats 4000000
set_option maxRecDepth 100000
/-- The numeral of an integer. -/
def fmt (z : Int) : List UInt8 := if z < 0 then 45 :: dec z.natAbs else dec z.natAbs
theorem LR.frS {w w' : World} {p : Option Addr} {c : Nat} {l : List Nat} {S : List Nat} (h : LR w p c l) (k : Fr S w w') (hn : ∀ b off, p = some ⟨b, off, none⟩ → b ∉ S) : LR w' p c l := by
  cases l with
  | nil => exact h.empty
  | cons x l =>
    obtain ⟨b, off, rfl, hb, hcell⟩ := h.rd.rng (by simp [limbs])
    refine ⟨h.nil, h.cap, h.max, h.lim, h.rd.fr k (fun b' hb' => ?_)⟩
    have e : b' = b := by
      simp [Value.ownBlock] at hb'
      omega
    subst e
    exact hn _ _ rfl
theorem run_strAdd {P : Program} {t : TypeId} {w : World} (s r : List UInt8) (hl : s.length + r.length ≤ 1000000000) : (binOp .add t (strV s) (strV r)).run P w = .ok (strV (s ++ r)) w := by
  have e : (⟨s.toArray⟩ : ByteArray) ++ ⟨r.toArray⟩ = ⟨(s ++ r).toArray⟩ := by
    apply ByteArray.ext
    simp [ByteArray.data_append]
  have hn : ¬ (((ByteArray.mk s.toArray).size + (ByteArray.mk r.toArray).size : Nat) : Int) > IntKind.i64.max := by
    show ¬ (((s.toArray.size + r.toArray.size : Nat) : Int) > 9223372036854775807)
    simp only [List.size_toArray]
    omega
  have e2 : (Op.stringOp .add ⟨s.toArray⟩ ⟨r.toArray⟩).run P w = .ok (strV (s ++ r)) w := by
    unfold Op.stringOp
    simp only [if_neg hn, e]
    rfl
  exact e2
theorem Hp.past {w wr : World} {l : List Ent} {k : Nat} {S : List Nat} {Q : World → Prop} {g : Nat} (H : Hp [] w wr l) (hm : .obj k S Q ∈ l) (hS : g ∈ S) {w' : World} (hF : Fr [g] wr w') : Fr [] w w' :=
  H.fr.andThen hF (fun x hx => by
    simp only [List.mem_singleton] at hx
    subst hx
    exact (H.ok _ hm).2.2 _ hS)
theorem fmt_zero : fmt 0 = [48] := by
  unfold fmt
  rw [if_neg (by decide)]
  exact dec_small (by decide)
theorem Dg.fin {N n : Nat} {gs : List (List UInt8)} (h : Dg N n 0 gs) (hne : gs ≠ []) : gs.reverse.flatten = dec N := by
  rw [h.d, if_pos ⟨rfl, hne⟩, List.nil_append]
set_option maxHeartbeats 8000000 in
theorem format_any {w : World} {p : Option Addr} {n c : Nat} (neg : Bool) (l : List Nat) (hl : l.length = n) (hn : n ≤ 10000) (h : LR w p c l) (ht : Lib.TabIs Tryz.prog w "internal/strconv.uint64pow10" .u64 Lib.pow10Tab) :
    Calls Tryz.prog 52 #[.agg #[.bool neg, .slice p n c]] w fun e w' => e = .returned (strV (fmt (zv neg l))) ∧ Fr [] w w' := by
  subst hl
  have Hh := hid h
  have hA := hid (h.trim)
  have HT := hid ht
  have hlen := digs_len_le h.lim
  have H := Hp.start [] w
  clear h ht
  obtain ⟨A, hAe⟩ : ∃ A, val l = A := ⟨_, rfl⟩
  have Hv := hid hAe
  have Hz : Hid (zv neg l = sg neg A) := hid (by rw [zv_sg, hAe])
  rw [hAe] at hA hlen
  clear hAe
  have HAl := hid (digs_lt A)
  go_enter Tryz.func52, Tryz.ntmps52
  go_wp2_with (first | refine x_q H ?_ | refine x_cm (fun h => ?_) (fun h => ?_) | (revert H; (first | (refine x_g ?_; intro g w1 hg hf H) | (refine x_s ?_; intro w1 hf H)); ((first | replace hkk := hid (fun p c l h hn => LR.frS (hkk.out p c l h hn) hf hn) | replace hkk := hid (fun p c l h hn => (hkk.out p c l h hn).fr hf) | skip); clear hf)))
  (refine x_c H (trim_any l rfl (Hh.out.fr H.fr)) ?_; clear H; rintro e w1 ⟨rfl, hF⟩ H; skip)
  rw [Hv.out]
  go_wp2_with (first | refine x_q H ?_ | refine x_cm (fun h => ?_) (fun h => ?_) | (revert H; (first | (refine x_g ?_; intro g w1 hg hf H) | (refine x_s ?_; intro w1 hf H)); ((first | replace hkk := hid (fun p c l h hn => LR.frS (hkk.out p c l h hn) hf hn) | replace hkk := hid (fun p c l h hn => (hkk.out p c l h hn).fr hf) | skip); clear hf)))
  (refine x_c H (clone_any (digs A) rfl (by omega) (hA.out.fr H.fr)) ?_; clear H; rintro e w1 ⟨p1, c1, rfl, hF, hL⟩ H; have HL1 := hid hL; clear hL)
  go_wp2_with (first | refine x_q H ?_ | refine x_cm (fun h => ?_) (fun h => ?_) | (revert H; (first | (refine x_g ?_; intro g w1 hg hf H) | (refine x_s ?_; intro w1 hf H)); ((first | replace hkk := hid (fun p c l h hn => LR.frS (hkk.out p c l h hn) hf hn) | replace hkk := hid (fun p c l h hn => (hkk.out p c l h hn).fr hf) | skip); clear hf)))
  have H1 := H.newRow 0 (e := 9) (sz := 1)
  clear H
  have H := H1
  clear H1
  go_loopg [3, 4] A (fun kk s3 s4 wr => ∃ (p1 : Option Addr) (c1 : Nat) (gs : List (List UInt8)) (v : Value) (S : List Nat) (m : Nat), s3 = .slice p1 (digs kk).length c1 ∧ s4 = v ∧ Hid (LR wr p1 c1 (digs kk)) ∧ Dg A (digs A).length kk gs ∧ (digs kk).length ≤ 10000 ∧ Hid (gs.length = m) ∧ m ≤ 320000 ∧ Hp [] w wr [.obj 0 S (RowAt 9 1 v m (gs.map strV) S), .blk g [.bool neg, .slice p l.length c] 50])
  case atStart => exact ⟨p1, c1, [], _, _, 0, rfl, rfl, HL1, Dg.start _ _, by omega, hid rfl, by omega, H⟩
  case round =>
    clear H HL1
    obtain ⟨p1, c1, gs, v, S, m, rfl, hv, HL1, HD, hkl, Hm, hm3, H⟩ := hrel
    obtain ⟨pg, cg, he, hmc, hcm, _⟩ := (H.rowo 0).form
    subst he
    subst hv
    unfold maxLen at hcm
    by_cases h0 : gk = 0
    · have h0' : (digs gk).length ≤ 0 := by rw [h0, digs_zero]; exact Nat.le_refl _
      have H0 := hid h0
      clear h0
      by_cases hm0 : m ≤ 0
      · have hA0 : Hid (A = 0) := hid (by
          have e : gs = [] := List.eq_nil_of_length_eq_zero (by have := Hm.out; omega)
          have := HD.x
          rw [H0.out, e] at this
          simpa using this.symm)
        go_wp2_with (first | refine x_q H ?_ | refine x_cm (fun h => ?_) (fun h => ?_) | (revert H; (first | (refine x_g ?_; intro g w1 hg hf H) | (refine x_s ?_; intro w1 hf H)); ((first | replace hkk := hid (fun p c l h hn => LR.frS (hkk.out p c l h hn) hf hn) | replace hkk := hid (fun p c l h hn => (hkk.out p c l h hn).fr hf) | skip); clear hf)))
        go_ret
        refine ⟨?_, H.fr⟩
        rw [Hz.out, hA0.out, sg_zero, fmt_zero]
        rfl
      · have hm1 : 0 < m := by omega
        have hne : gs ≠ [] := fun e => by have := Hm.out; rw [e] at this; simp at this; omega
        have Hf : Hid (gs.reverse.flatten = dec A) := hid (by have h1 := HD; rw [H0.out] at h1; exact h1.fin hne)
        have HA0 := hid (HD.nz hne)
        have Hdl : Hid ((dec A).length ≤ 9 * 320000) := hid (by
          rw [← Hf.out]
          have h1 := HD.bytes
          have h2 : gs.reverse.flatten.length = gs.flatten.length := by
            rw [List.length_flatten, List.length_flatten, List.map_reverse, List.sum_reverse]
          have := Hm.out
          omega)
        clear hne hm0
        cases neg
        · go_wp2_with (first | refine x_q H ?_ | refine x_cm (fun h => ?_) (fun h => ?_) | (revert H; (first | (refine x_g ?_; intro g w1 hg hf H) | (refine x_s ?_; intro w1 hf H)); ((first | replace hkk := hid (fun p c l h hn => LR.frS (hkk.out p c l h hn) hf hn) | replace hkk := hid (fun p c l h hn => (hkk.out p c l h hn).fr hf) | skip); clear hf)))
          obtain ⟨hrow0, ⟨hS0, hn0', he⟩ | ⟨g0, cap0, pad0, hS0, he, hle, hmax, hlen0, hg0⟩⟩ := H.rowo 0
          · exact absurd hn0' (by omega)
          injection he with e1 e2 e3
          subst e1 e3
          refine Calls.mono (reverse_any (gs) pad0 Hm.out hg0 (by have := Hm.out; omega)) ?_
          rintro e w1 ⟨rfl, hF, hgw, hcell⟩
          have hfr := H.past (g := g0) (by first | exact .head _ | exact .tail _ (.head _)) (by rw [hS0]; simp) hF
          clear H hF hS0 hrow0
          have H : Hp [] w w1 [] := ⟨hfr, by simp, by simp⟩
          clear hfr
          have Hcell := hid hcell
          clear hcell
          go_wp2_with (first | refine x_q H ?_ | refine x_cm (fun h => ?_) (fun h => ?_) | (revert H; (first | (refine x_g ?_; intro g w1 hg hf H) | (refine x_s ?_; intro w1 hf H)); ((first | replace hkk := hid (fun p c l h hn => LR.frS (hkk.out p c l h hn) hf hn) | replace hkk := hid (fun p c l h hn => (hkk.out p c l h hn).fr hf) | skip); clear hf)))
          refine Calls.mono (join_any (gs).reverse (by rw [List.length_reverse]; exact Hm.out) (fun j x hx => Hcell.out j x hx) hgw (by rw [List.length_reverse]; have := Hm.out; omega) (by rw [List.length_reverse]; have := Hm.out; omega) (by rw [Hf.out]; have := Hdl.out; (try simp only [List.length_cons]); omega)) ?_
          rintro e w2 ⟨rfl, hF⟩
          have H1 := H.step hF (by simp)
          clear H hF
          have H := H1
          clear H1
          rw [Hf.out]
          go_wp2_with (first | refine x_q H ?_ | refine x_cm (fun h => ?_) (fun h => ?_) | (revert H; (first | (refine x_g ?_; intro g w1 hg hf H) | (refine x_s ?_; intro w1 hf H)); ((first | replace hkk := hid (fun p c l h hn => LR.frS (hkk.out p c l h hn) hf hn) | replace hkk := hid (fun p c l h hn => (hkk.out p c l h hn).fr hf) | skip); clear hf)))
          go_ret
          refine ⟨?_, H.fr⟩
          rw [Hz.out, fmt, sg_abs]
          rw [if_neg (by unfold sg; simp)]
          rfl
        · go_wp2_with (first | refine x_q H ?_ | refine x_cm (fun h => ?_) (fun h => ?_) | (refine is_blt (b := .append) rfl ?_; go_loud (refine wl_rw rfl (fun K hK => c_aprS H rfl rfl rfl 0 (H.rd (b := g) (off := 0) (vs := [strV [45]]) List.prefix_rfl) rfl (by intro u hu; simp only [List.mem_singleton] at hu; subst hu; rfl) (by omega) (by unfold maxLen; omega) (fun p1 c1 w1 S' hf H1 => hK _ _ ?_))); (clear hK K); (clear H; have H := H1; clear H1; (try dsimp only at H); ((first | replace hkk := hid (fun p c l h hn => LR.frS (hkk.out p c l h hn) hf hn) | replace hkk := hid (fun p c l h hn => (hkk.out p c l h hn).fr hf) | skip); clear hf)); (simp only [nrm, ↓reduceIte, Nat.reduceAdd])) | (revert H; (first | (refine x_g ?_; intro g w1 hg hf H) | (refine x_s ?_; intro w1 hf H)); ((first | replace hkk := hid (fun p c l h hn => LR.frS (hkk.out p c l h hn) hf hn) | replace hkk := hid (fun p c l h hn => (hkk.out p c l h hn).fr hf) | skip); clear hf)))
          rw [show (gs.map strV) ++ [strV [45]] = (gs ++ [[45]]).map strV by simp] at H
          have Hm2 : Hid ((gs ++ [[45]]).length = m + 1) := hid (by rw [List.length_append, Hm.out]; rfl)
          have Hf2 : Hid ((gs ++ [[45]]).reverse.flatten = 45 :: dec A) := hid (by rw [List.reverse_append, List.reverse_singleton, List.singleton_append, List.flatten_cons, Hf.out]; rfl)
          obtain ⟨hrow0, ⟨hS0, hn0', he⟩ | ⟨g0, cap0, pad0, hS0, he, hle, hmax, hlen0, hg0⟩⟩ := H.rowo 0
          · exact absurd hn0' (by omega)
          injection he with e1 e2 e3
          subst e1 e3
          refine Calls.mono (reverse_any (gs ++ [[45]]) pad0 Hm2.out hg0 (by have := Hm2.out; omega)) ?_
          rintro e w1 ⟨rfl, hF, hgw, hcell⟩
          have hfr := H.past (g := g0) (by first | exact .head _ | exact .tail _ (.head _)) (by rw [hS0]; simp) hF
          clear H hF hS0 hrow0
          have H : Hp [] w w1 [] := ⟨hfr, by simp, by simp⟩
          clear hfr
          have Hcell := hid hcell
          clear hcell
          go_wp2_with (first | refine x_q H ?_ | refine x_cm (fun h => ?_) (fun h => ?_) | (revert H; (first | (refine x_g ?_; intro g w1 hg hf H) | (refine x_s ?_; intro w1 hf H)); ((first | replace hkk := hid (fun p c l h hn => LR.frS (hkk.out p c l h hn) hf hn) | replace hkk := hid (fun p c l h hn => (hkk.out p c l h hn).fr hf) | skip); clear hf)))
          refine Calls.mono (join_any (gs ++ [[45]]).reverse (by rw [List.length_reverse]; exact Hm2.out) (fun j x hx => Hcell.out j x hx) hgw (by rw [List.length_reverse]; have := Hm2.out; omega) (by rw [List.length_reverse]; have := Hm2.out; omega) (by rw [Hf2.out]; have := Hdl.out; (try simp only [List.length_cons]); omega)) ?_
          rintro e w2 ⟨rfl, hF⟩
          have H1 := H.step hF (by simp)
          clear H hF
          have H := H1
          clear H1
          rw [Hf2.out]
          go_wp2_with (first | refine x_q H ?_ | refine x_cm (fun h => ?_) (fun h => ?_) | (revert H; (first | (refine x_g ?_; intro g w1 hg hf H) | (refine x_s ?_; intro w1 hf H)); ((first | replace hkk := hid (fun p c l h hn => LR.frS (hkk.out p c l h hn) hf hn) | replace hkk := hid (fun p c l h hn => (hkk.out p c l h hn).fr hf) | skip); clear hf)))
          go_ret
          refine ⟨?_, H.fr⟩
          rw [Hz.out, fmt, sg_abs]
          rw [if_pos (by have := HA0.out; unfold sg; simp; omega)]
          rfl
    · have hkp : 0 < (digs gk).length := digs_len_pos h0
      have HN := HD.next HAl.out h0
      have hlt := hid (Nat.div_lt_self (Nat.pos_of_ne_zero h0) (show 1 < 1000000000 by decide))
      have h0 := hid h0
      have hml := HN.len
      rw [List.length_append, Hm.out, List.length_cons, List.length_nil] at hml
      have hql := digs_mono (Nat.div_le_self gk 1000000000)
      go_wp2_with (first | refine x_q H ?_ | refine x_cm (fun h => ?_) (fun h => ?_) | (revert H; (first | (refine x_g ?_; intro g w1 hg hf H) | (refine x_s ?_; intro w1 hf H)); ((first | replace hkk := hid (fun p c l h hn => LR.frS (hkk.out p c l h hn) hf hn) | replace hkk := hid (fun p c l h hn => (hkk.out p c l h hn).fr hf) | skip); clear hf)))
      have hSlt : ∀ x ∈ S, x < wr.heap.size := (H.ok _ (.head _)).2.1.lt _ (H.ok _ (.head _)).1
      (refine x_c H (short_new (digs gk) 1000000000 rfl (by omega) HL1.out (by omega) (by omega)) ?_; clear H; rintro e w1 ⟨p2, c2, rfl, hF, hL, hnw⟩ H; have HL2 := hid hL; have HN2 : Hid (∀ b off, p2 = some ⟨b, off, none⟩ → b ∉ S) := hid (fun b off e hb => by have h1 := hnw b off e; have h2 := hSlt b hb; omega); clear hL hnw hSlt)
      rw [val_digs] at HL2 ⊢
      have hr9 : gk % 1000000000 < 1000000000 := Nat.mod_lt _ (by decide)
      have hgr : Hid (grp gk = if gk / 1000000000 = 0 then dec (gk % 1000000000) else pad9 (gk % 1000000000)) := hid rfl
      generalize gk % 1000000000 = r at hr9 hgr ⊢
      generalize gk / 1000000000 = X at *
      go_wp2_with (first | refine x_q H ?_ | refine x_cm (fun h => ?_) (fun h => ?_) | (revert H; (first | (refine x_g ?_; intro g w1 hg hf H) | (refine x_s ?_; intro w1 hf H)); ((first | replace hkk := hid (fun p c l h hn => LR.frS (hkk.out p c l h hn) hf hn) | replace hkk := hid (fun p c l h hn => (hkk.out p c l h hn).fr hf) | skip); clear hf)))
      (refine x_c H (itoa_any r (by omega) _ (TabIs.fr HT.out H.fr)) ?_; clear H; rintro e w1 ⟨rfl, hF⟩ H; replace HL2 := hid (HL2.out.fr hF))
      by_cases hX : X = 0
      · have hX0 : (digs X).length ≤ 0 := by rw [hX, digs_zero]; exact Nat.le_refl _
        have Hg : Hid (grp gk = dec r) := hid (by rw [hgr.out, if_pos hX])
        clear hX hgr
        have hkk := hid (fun (p : Option Addr) (c : Nat) (l : List Nat) (h : LR w1 p c l) (hn : ∀ b off, p = some ⟨b, off, none⟩ → b ∉ S) => h)
        go_wp2_with (first | refine x_q H ?_ | refine x_cm (fun h => ?_) (fun h => ?_) | (refine is_blt (b := .append) rfl ?_; go_loud (refine wl_rw rfl (fun K hK => c_aprS H rfl rfl rfl 0 (H.rd (b := g) (off := 0) (vs := [strV (dec r)]) List.prefix_rfl) rfl (by intro u hu; simp only [List.mem_singleton] at hu; subst hu; rfl) (by omega) (by unfold maxLen; omega) (fun p1 c1 w1 S' hf H1 => hK _ _ ?_))); (clear hK K); (clear H; have H := H1; clear H1; (try dsimp only at H); ((first | replace hkk := hid (fun p c l h hn => LR.frS (hkk.out p c l h hn) hf hn) | replace hkk := hid (fun p c l h hn => (hkk.out p c l h hn).fr hf) | skip); clear hf)); (simp only [nrm, ↓reduceIte, Nat.reduceAdd])) | (revert H; (first | (refine x_g ?_; intro g w1 hg hf H) | (refine x_s ?_; intro w1 hf H)); ((first | replace hkk := hid (fun p c l h hn => LR.frS (hkk.out p c l h hn) hf hn) | replace hkk := hid (fun p c l h hn => (hkk.out p c l h hn).fr hf) | skip); clear hf)))
        rw [show (gs.map strV) ++ [strV (dec r)] = (gs ++ [grp gk]).map strV by rw [Hg.out]; simp] at H
        go_roundg X
        case measure => exact hlt.out
        case rel => exact ⟨p2, c2, gs ++ [grp gk], _, S', m + 1, rfl, rfl, hid (hkk.out _ _ _ HL2.out HN2.out), HN, by omega, hid (by rw [List.length_append, Hm.out]; rfl), by omega, H.sub (by repeat first | exact List.Sublist.refl _ | exact List.nil_sublist _ | apply List.Sublist.cons_cons | apply List.Sublist.cons)⟩
      · have hX0 : 0 < (digs X).length := digs_len_pos hX
        have Hg : Hid (grp gk = pad9 r) := hid (by rw [hgr.out, if_neg hX])
        have hd9 := dec_len9 hr9
        obtain ⟨b, hb⟩ : ∃ b : ByteArray, b = ⟨(dec r).toArray⟩ := ⟨_, rfl⟩
        have hbs : b.size = (dec r).length := by rw [hb]; show (dec r).toArray.size = _; simp
        have hbs9 : b.size ≤ 9 := by omega
        have Hbs := hid hbs
        have Hb : Hid (Value.string b = strV (dec r)) := hid (by rw [hb]; rfl)
        clear hX hgr hb hbs
        rw [show strV (Lib.decDigits r) = Value.string b from Hb.out.symm]
        go_wp2_with (first | refine x_q H ?_ | refine x_cm (fun h => ?_) (fun h => ?_) | (revert H; (first | (refine x_g ?_; intro g w1 hg hf H) | (refine x_s ?_; intro w1 hf H)); ((first | replace hkk := hid (fun p c l h hn => LR.frS (hkk.out p c l h hn) hf hn) | replace hkk := hid (fun p c l h hn => (hkk.out p c l h hn).fr hf) | skip); clear hf)))
        rw [show (9 : Int) - (b.size : Int) = ((9 - b.size : Nat) : Int) by omega]
        (refine x_c H (repeat_any (9 - b.size) (by omega) _) ?_; clear H; rintro e w1 ⟨rfl, hF⟩ H; replace HL2 := hid (HL2.out.fr hF))
        have Hp9 : Hid (List.replicate (9 - b.size) 48 ++ dec r = pad9 r) := hid (by rw [Hbs.out]; rfl)
        have hadd : (List.replicate (9 - b.size) (48 : UInt8)).length + (dec r).length ≤ 1000000000 := by rw [List.length_replicate]; omega
        rw [Hb.out]
        go_wp2_with (first | refine x_q H ?_ | refine x_cm (fun h => ?_) (fun h => ?_) | (revert H; (first | (refine x_g ?_; intro g w1 hg hf H) | (refine x_s ?_; intro w1 hf H)); ((first | replace hkk := hid (fun p c l h hn => LR.frS (hkk.out p c l h hn) hf hn) | replace hkk := hid (fun p c l h hn => (hkk.out p c l h hn).fr hf) | skip); clear hf)))
        rw [run_strAdd _ _ hadd, Hp9.out]
        have hkk := hid (fun (p : Option Addr) (c : Nat) (l : List Nat) (h : LR w1 p c l) (hn : ∀ b off, p = some ⟨b, off, none⟩ → b ∉ S) => h)
        go_wp2_with (first | refine x_q H ?_ | refine x_cm (fun h => ?_) (fun h => ?_) | (refine is_blt (b := .append) rfl ?_; go_loud (refine wl_rw rfl (fun K hK => c_aprS H rfl rfl rfl 0 (H.rd (b := g) (off := 0) (vs := [strV (pad9 r)]) List.prefix_rfl) rfl (by intro u hu; simp only [List.mem_singleton] at hu; subst hu; rfl) (by omega) (by unfold maxLen; omega) (fun p1 c1 w1 S' hf H1 => hK _ _ ?_))); (clear hK K); (clear H; have H := H1; clear H1; (try dsimp only at H); ((first | replace hkk := hid (fun p c l h hn => LR.frS (hkk.out p c l h hn) hf hn) | replace hkk := hid (fun p c l h hn => (hkk.out p c l h hn).fr hf) | skip); clear hf)); (simp only [nrm, ↓reduceIte, Nat.reduceAdd])) | (revert H; (first | (refine x_g ?_; intro g w1 hg hf H) | (refine x_s ?_; intro w1 hf H)); ((first | replace hkk := hid (fun p c l h hn => LR.frS (hkk.out p c l h hn) hf hn) | replace hkk := hid (fun p c l h hn => (hkk.out p c l h hn).fr hf) | skip); clear hf)))
        rw [show (gs.map strV) ++ [strV (pad9 r)] = (gs ++ [grp gk]).map strV by rw [Hg.out]; simp] at H
        go_roundg X
        case measure => exact hlt.out
        case rel => exact ⟨p2, c2, gs ++ [grp gk], _, S', m + 1, rfl, rfl, hid (hkk.out _ _ _ HL2.out HN2.out), HN, by omega, hid (by rw [List.length_append, Hm.out]; rfl), by omega, H.sub (by repeat first | exact List.Sublist.refl _ | exact List.nil_sublist _ | apply List.Sublist.cons_cons | apply List.Sublist.cons)⟩
end Go.Proofs.YthbeeeclgbpopaaGreatDoor
