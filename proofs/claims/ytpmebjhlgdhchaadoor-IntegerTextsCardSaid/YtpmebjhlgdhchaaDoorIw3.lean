/-
  The integers: sums of magnitudes.
-/
import Derived.Test.YtpmebjhlgdhchaaDoorIw2
namespace Go.Proofs.YtpmebjhlgdhchaaDoor
open Go.RowKit
set_option linter.unusedSimpArgs false
set_option linter.unusedVariables false
set_option maxHeartbeats 4000000
set_option maxRecDepth 100000
theorem Hp.blkObj {T : List Nat} {w0 w : World} {l : List Ent} {g : Nat} {cs : List Value} {e : TypeId} (H : Hp T w0 w (.blk g cs e :: l)) (k : Nat) {Q : World → Prop} (hq : Q w) [m : Fm [g] Q] : Hp T w0 w (.obj k [g] Q :: l) := H.recast (.head _) rfl ⟨hq, m.h, fun x hx => by simp only [List.mem_singleton] at hx; subst hx; exact (H.ok _ (.head _)).2⟩
instance {e : TypeId} {sz : Nat} {v : Value} {n : Nat} {xs : List Value} {S : List Nat} : Fm S (RowAt e sz v n xs S) := ⟨RowAt.firm⟩
theorem LR.trim {w : World} {p : Option Addr} {c : Nat} {l : List Nat} (h : LR w p c l) : LR w p c (digs (val l)) := by
  have := h.pre (digs_len_le h.lim)
  rwa [digs_take h.lim] at this
theorem limbs_snoc (o : List Nat) (t : Nat) : limbs o ++ [.int .u32 (t : Int)] = limbs (o ++ [t]) := by simp [limbs]
theorem zeros_len (n : Nat) (v : Value) : (List.replicate n [v]).flatten.length = n := by simp
theorem plus_any {w : World} {p q : Option Addr} {n m c d : Nat} (a b : List Nat) (hn : a.length = n) (hm : b.length = m) (hn0 : n ≤ 1000000) (hm0 : m ≤ 1000000) (h : LR w p c a) (k : LR w q d b) :
    Calls Tryd.prog 51 #[.slice p n c, .slice q m d] w fun e w' => ∃ p' c', e = .returned (.slice p' (digs (val a + val b)).length c') ∧ Fr [] w w' ∧ LR w' p' c' (digs (val a + val b)) := by
  subst hn hm
  have Hh := hid h
  have Hk := hid k
  clear h k
  have H := Hp.start [] w
  by_cases hmn : b.length ≤ a.length
  · go_enter Tryd.func51, Tryd.ntmps51
    go_wp2_with (first | refine x_q H ?_ | refine x_cm (fun h => ?_) (fun h => ?_) | (revert H; first | (refine x_g ?_; intro g w1 hg hf H) | (refine x_s ?_; intro w1 hf H); (try clear hf)))
    rw [show ((a.length : Int) + 1).toNat = a.length + 1 by omega] at H
    have H1 := H.blkObj 0 (Q := RowAt 54 1 (.slice (some ⟨g, 0, none⟩) 0 (a.length + 1)) 0 [] [g]) ⟨rfl, .inr ⟨g, a.length + 1, (List.replicate (a.length + 1) [Value.int .u32 0]).flatten, rfl, rfl, Nat.zero_le _, by unfold maxLen; omega, by rw [List.nil_append, zeros_len, Nat.mul_one], H.at g⟩⟩
    clear H hg
    have H := H1
    clear H1
    go_loopw [5, 6, 23] (fun s5 s6 s23 wr => ∃ (i : Nat) (o : List Nat) (cy : Nat) (pv : Value) (S : List Nat), i ≤ a.length ∧ s23 = .int .i64 i ∧ s6 = .int .u64 cy ∧ s5 = pv ∧ Hid (o.length = i) ∧ Hid (Lim o) ∧ cy ≤ 1 ∧ Hid (val o + 4294967296 ^ i * cy = val (a.take i) + val (b.take i)) ∧ Hp [] w wr [.obj 0 S (RowAt 54 1 pv i (limbs o) S)]) (fun _ _ v _ => a.length - (intOf v).toNat)
    case atStart => exact ⟨0, [], 0, _, _, Nat.zero_le _, rfl, rfl, by simp, hid rfl, hid Lim.nil, Nat.zero_le _, hid rfl, H⟩
    case round =>
      clear H
      obtain ⟨i, o, cy, pv, S, hi, rfl, rfl, hpv, Hol, Hlo, hcy, Hv, H⟩ := hrel
      obtain ⟨p5, c5, he, _⟩ := (H.rowo 0).form
      subst he
      subst hpv
      by_cases hin : i < a.length
      · obtain ⟨x, hx⟩ : ∃ x, a[i]? = some x := ⟨_, List.getElem?_eq_getElem hin⟩
        have hxv := limbs_at hx
        have hxB := Hh.out.lim.at hx
        have Hx := hid hx
        clear hx
        obtain ⟨b0, off, rfl, hb0, hcell⟩ := Hh.out.rd.rng (limbs_ne (i := i) hin)
        have H1 := H.pushRng (b := b0) (off := off) hb0 (by simp) hcell
        clear H hcell
        have H := H1
        clear H1
        by_cases him : i < b.length
        · obtain ⟨y, hy⟩ : ∃ y, b[i]? = some y := ⟨_, List.getElem?_eq_getElem him⟩
          have hyv := limbs_at hy
          have hyB := Hk.out.lim.at hy
          have Hy := hid hy
          clear hy
          obtain ⟨b1, off1, rfl, hb1, hcell1⟩ := Hk.out.rd.rng (limbs_ne (i := i) him)
          have H1 := H.pushRng (b := b1) (off := off1) hb1 (by simp) hcell1
          clear H hcell1
          have H := H1
          clear H1
          go_wp2_with (first | refine x_q H ?_ | refine x_cm (fun h => ?_) (fun h => ?_) | refine x_e (ev_low rfl rfl) ?_ | refine x_e (ev_high rfl rfl) ?_ | (refine is_blt (b := .append) rfl ?_; go_loud (refine wl_rw rfl (fun K hK => c_aprS H rfl rfl rfl 0 (H.rd (b := g) (off := 0) (vs := [.int .u32 (((x : Int) + (cy : Int) + (y : Int)) % 4294967296)]) List.prefix_rfl) rfl (by intro u hu; simp only [List.mem_singleton] at hu; subst hu; rfl) (by omega) (by unfold maxLen; omega) (fun p1 c1 w1 S' hf H1 => hK _ _ ?_))); (clear hK K); (clear H; have H := H1; clear H1; (try dsimp only at H); (try clear hf)); (simp only [nrm, ↓reduceIte, Nat.reduceAdd])) | (revert H; first | (refine x_g ?_; intro g w1 hg hf H) | (refine x_s ?_; intro w1 hf H); (try clear hf)))
          have e1 : ((x : Int) + (cy : Int) + (y : Int)) % 4294967296 = (((x + y + cy) % 4294967296 : Nat) : Int) := by omega
          rw [e1, limbs_snoc] at H
          go_roundw
          case rel => exact ⟨i + 1, o ++ [(x + y + cy) % 4294967296], (x + y + cy) / 4294967296, _, S', by omega, by go_num, by rw [show ((x : Int) + (cy : Int) + (y : Int)) / 4294967296 = (((x + y + cy) / 4294967296 : Nat) : Int) by omega], rfl, hid (by rw [List.length_append, Hol.out]; rfl), hid (Hlo.out.app (Lim.cons (Nat.mod_lt _ (by decide)) Lim.nil)), by omega, hid (by rw [plus_round Hol.out Hv.out rfl, val_take_succ Hx.out, val_take_succ Hy.out]; omega), H.sub (by repeat first | exact List.Sublist.refl _ | exact List.nil_sublist _ | apply List.Sublist.cons_cons | apply List.Sublist.cons)⟩
          case measure => (simp [intOf]; try omega)
        · go_wp2_with (first | refine x_q H ?_ | refine x_cm (fun h => ?_) (fun h => ?_) | refine x_e (ev_low rfl rfl) ?_ | refine x_e (ev_high rfl rfl) ?_ | (refine is_blt (b := .append) rfl ?_; go_loud (refine wl_rw rfl (fun K hK => c_aprS H rfl rfl rfl 0 (H.rd (b := g) (off := 0) (vs := [.int .u32 (((x : Int) + (cy : Int)) % 4294967296)]) List.prefix_rfl) rfl (by intro u hu; simp only [List.mem_singleton] at hu; subst hu; rfl) (by omega) (by unfold maxLen; omega) (fun p1 c1 w1 S' hf H1 => hK _ _ ?_))); (clear hK K); (clear H; have H := H1; clear H1; (try dsimp only at H); (try clear hf)); (simp only [nrm, ↓reduceIte, Nat.reduceAdd])) | (revert H; first | (refine x_g ?_; intro g w1 hg hf H) | (refine x_s ?_; intro w1 hf H); (try clear hf)))
          have e1 : ((x : Int) + (cy : Int)) % 4294967296 = (((x + 0 + cy) % 4294967296 : Nat) : Int) := by omega
          rw [e1, limbs_snoc] at H
          go_roundw
          case rel => exact ⟨i + 1, o ++ [(x + 0 + cy) % 4294967296], (x + 0 + cy) / 4294967296, _, S', by omega, by go_num, by rw [show ((x : Int) + (cy : Int)) / 4294967296 = (((x + 0 + cy) / 4294967296 : Nat) : Int) by omega], rfl, hid (by rw [List.length_append, Hol.out]; rfl), hid (Hlo.out.app (Lim.cons (Nat.mod_lt _ (by decide)) Lim.nil)), by omega, hid (by rw [plus_round Hol.out Hv.out rfl, val_take_succ Hx.out, take_over (by omega)]; omega), H.sub (by repeat first | exact List.Sublist.refl _ | exact List.nil_sublist _ | apply List.Sublist.cons_cons | apply List.Sublist.cons)⟩
          case measure => (simp [intOf]; try omega)
      · have e : i = a.length := by omega
        have Hi := hid e
        have HV : Hid (val (o ++ [cy]) = val a + val b) := hid (by
          have := Hv.out
          rw [e, List.take_of_length_le (Nat.le_refl _), List.take_of_length_le (by omega)] at this
          rw [val_snoc, Hol.out, e, this])
        have Hl1 : Hid (Lim (o ++ [cy])) := hid (Hlo.out.app (Lim.cons (by omega) Lim.nil))
        clear e
        go_wp2_with (first | refine x_q H ?_ | refine x_cm (fun h => ?_) (fun h => ?_) | (refine is_blt (b := .append) rfl ?_; go_loud (refine wl_rw rfl (fun K hK => c_aprS H rfl rfl rfl 0 (H.rd (b := g) (off := 0) (vs := [.int .u32 ((cy : Int))]) List.prefix_rfl) rfl (by intro u hu; simp only [List.mem_singleton] at hu; subst hu; rfl) (by omega) (by unfold maxLen; omega) (fun p1 c1 w1 S' hf H1 => hK _ _ ?_))); (clear hK K); (clear H; have H := H1; clear H1; (try dsimp only at H); (try clear hf)); (simp only [nrm, ↓reduceIte, Nat.reduceAdd])) | (revert H; first | (refine x_g ?_; intro g w1 hg hf H) | (refine x_s ?_; intro w1 hf H); (try clear hf)))
        rw [limbs_snoc] at H
        obtain ⟨p6, c6, e6, e7, hL⟩ := LR.of_row (H.rowo 0) Hl1.out
        injection e6 with e61 e62 e63
        subst e61 e63
        have HL := hid hL
        refine Calls.mono (trim_any (o ++ [cy]) e7 HL.out) ?_
        rintro e w1 ⟨rfl, hF⟩
        have HL2 := hid (hL.fr hF).trim
        have H1 := H.step hF (by simp)
        clear H hF hL HL e7
        have H := H1
        clear H1
        go_wp2_with (first | refine x_q H ?_ | refine x_cm (fun h => ?_) (fun h => ?_) | (revert H; first | (refine x_g ?_; intro g w1 hg hf H) | (refine x_s ?_; intro w1 hf H); (try clear hf)))
        go_ret
        rw [HV.out] at HL2
        exact ⟨_, _, by rw [HV.out]; rfl, H.fr, HL2.out⟩
  · have hmn2 : a.length ≤ b.length := by omega
    go_enter Tryd.func51, Tryd.ntmps51
    go_wp2_with (first | refine x_q H ?_ | refine x_cm (fun h => ?_) (fun h => ?_) | (revert H; first | (refine x_g ?_; intro g w1 hg hf H) | (refine x_s ?_; intro w1 hf H); (try clear hf)))
    rw [show ((b.length : Int) + 1).toNat = b.length + 1 by omega] at H
    have H1 := H.blkObj 0 (Q := RowAt 54 1 (.slice (some ⟨g, 0, none⟩) 0 (b.length + 1)) 0 [] [g]) ⟨rfl, .inr ⟨g, b.length + 1, (List.replicate (b.length + 1) [Value.int .u32 0]).flatten, rfl, rfl, Nat.zero_le _, by unfold maxLen; omega, by rw [List.nil_append, zeros_len, Nat.mul_one], H.at g⟩⟩
    clear H hg
    have H := H1
    clear H1
    go_loopw [5, 6, 23] (fun s5 s6 s23 wr => ∃ (i : Nat) (o : List Nat) (cy : Nat) (pv : Value) (S : List Nat), i ≤ b.length ∧ s23 = .int .i64 i ∧ s6 = .int .u64 cy ∧ s5 = pv ∧ Hid (o.length = i) ∧ Hid (Lim o) ∧ cy ≤ 1 ∧ Hid (val o + 4294967296 ^ i * cy = val (b.take i) + val (a.take i)) ∧ Hp [] w wr [.obj 0 S (RowAt 54 1 pv i (limbs o) S)]) (fun _ _ v _ => b.length - (intOf v).toNat)
    case atStart => exact ⟨0, [], 0, _, _, Nat.zero_le _, rfl, rfl, by simp, hid rfl, hid Lim.nil, Nat.zero_le _, hid rfl, H⟩
    case round =>
      clear H
      obtain ⟨i, o, cy, pv, S, hi, rfl, rfl, hpv, Hol, Hlo, hcy, Hv, H⟩ := hrel
      obtain ⟨p5, c5, he, _⟩ := (H.rowo 0).form
      subst he
      subst hpv
      by_cases hin : i < b.length
      · obtain ⟨x, hx⟩ : ∃ x, b[i]? = some x := ⟨_, List.getElem?_eq_getElem hin⟩
        have hxv := limbs_at hx
        have hxB := Hk.out.lim.at hx
        have Hx := hid hx
        clear hx
        obtain ⟨b0, off, rfl, hb0, hcell⟩ := Hk.out.rd.rng (limbs_ne (i := i) hin)
        have H1 := H.pushRng (b := b0) (off := off) hb0 (by simp) hcell
        clear H hcell
        have H := H1
        clear H1
        by_cases him : i < a.length
        · obtain ⟨y, hy⟩ : ∃ y, a[i]? = some y := ⟨_, List.getElem?_eq_getElem him⟩
          have hyv := limbs_at hy
          have hyB := Hh.out.lim.at hy
          have Hy := hid hy
          clear hy
          obtain ⟨b1, off1, rfl, hb1, hcell1⟩ := Hh.out.rd.rng (limbs_ne (i := i) him)
          have H1 := H.pushRng (b := b1) (off := off1) hb1 (by simp) hcell1
          clear H hcell1
          have H := H1
          clear H1
          go_wp2_with (first | refine x_q H ?_ | refine x_cm (fun h => ?_) (fun h => ?_) | refine x_e (ev_low rfl rfl) ?_ | refine x_e (ev_high rfl rfl) ?_ | (refine is_blt (b := .append) rfl ?_; go_loud (refine wl_rw rfl (fun K hK => c_aprS H rfl rfl rfl 0 (H.rd (b := g) (off := 0) (vs := [.int .u32 (((x : Int) + (cy : Int) + (y : Int)) % 4294967296)]) List.prefix_rfl) rfl (by intro u hu; simp only [List.mem_singleton] at hu; subst hu; rfl) (by omega) (by unfold maxLen; omega) (fun p1 c1 w1 S' hf H1 => hK _ _ ?_))); (clear hK K); (clear H; have H := H1; clear H1; (try dsimp only at H); (try clear hf)); (simp only [nrm, ↓reduceIte, Nat.reduceAdd])) | (revert H; first | (refine x_g ?_; intro g w1 hg hf H) | (refine x_s ?_; intro w1 hf H); (try clear hf)))
          have e1 : ((x : Int) + (cy : Int) + (y : Int)) % 4294967296 = (((x + y + cy) % 4294967296 : Nat) : Int) := by omega
          rw [e1, limbs_snoc] at H
          go_roundw
          case rel => exact ⟨i + 1, o ++ [(x + y + cy) % 4294967296], (x + y + cy) / 4294967296, _, S', by omega, by go_num, by rw [show ((x : Int) + (cy : Int) + (y : Int)) / 4294967296 = (((x + y + cy) / 4294967296 : Nat) : Int) by omega], rfl, hid (by rw [List.length_append, Hol.out]; rfl), hid (Hlo.out.app (Lim.cons (Nat.mod_lt _ (by decide)) Lim.nil)), by omega, hid (by rw [plus_round Hol.out Hv.out rfl, val_take_succ Hx.out, val_take_succ Hy.out]; omega), H.sub (by repeat first | exact List.Sublist.refl _ | exact List.nil_sublist _ | apply List.Sublist.cons_cons | apply List.Sublist.cons)⟩
          case measure => (simp [intOf]; try omega)
        · go_wp2_with (first | refine x_q H ?_ | refine x_cm (fun h => ?_) (fun h => ?_) | refine x_e (ev_low rfl rfl) ?_ | refine x_e (ev_high rfl rfl) ?_ | (refine is_blt (b := .append) rfl ?_; go_loud (refine wl_rw rfl (fun K hK => c_aprS H rfl rfl rfl 0 (H.rd (b := g) (off := 0) (vs := [.int .u32 (((x : Int) + (cy : Int)) % 4294967296)]) List.prefix_rfl) rfl (by intro u hu; simp only [List.mem_singleton] at hu; subst hu; rfl) (by omega) (by unfold maxLen; omega) (fun p1 c1 w1 S' hf H1 => hK _ _ ?_))); (clear hK K); (clear H; have H := H1; clear H1; (try dsimp only at H); (try clear hf)); (simp only [nrm, ↓reduceIte, Nat.reduceAdd])) | (revert H; first | (refine x_g ?_; intro g w1 hg hf H) | (refine x_s ?_; intro w1 hf H); (try clear hf)))
          have e1 : ((x : Int) + (cy : Int)) % 4294967296 = (((x + 0 + cy) % 4294967296 : Nat) : Int) := by omega
          rw [e1, limbs_snoc] at H
          go_roundw
          case rel => exact ⟨i + 1, o ++ [(x + 0 + cy) % 4294967296], (x + 0 + cy) / 4294967296, _, S', by omega, by go_num, by rw [show ((x : Int) + (cy : Int)) / 4294967296 = (((x + 0 + cy) / 4294967296 : Nat) : Int) by omega], rfl, hid (by rw [List.length_append, Hol.out]; rfl), hid (Hlo.out.app (Lim.cons (Nat.mod_lt _ (by decide)) Lim.nil)), by omega, hid (by rw [plus_round Hol.out Hv.out rfl, val_take_succ Hx.out, take_over (by omega)]; omega), H.sub (by repeat first | exact List.Sublist.refl _ | exact List.nil_sublist _ | apply List.Sublist.cons_cons | apply List.Sublist.cons)⟩
          case measure => (simp [intOf]; try omega)
      · have e : i = b.length := by omega
        have Hi := hid e
        have HV : Hid (val (o ++ [cy]) = val a + val b) := hid (by
          have := Hv.out
          rw [e, List.take_of_length_le (Nat.le_refl _), List.take_of_length_le (by omega)] at this
          rw [val_snoc, Hol.out, e, this]; exact Nat.add_comm _ _)
        have Hl1 : Hid (Lim (o ++ [cy])) := hid (Hlo.out.app (Lim.cons (by omega) Lim.nil))
        clear e
        go_wp2_with (first | refine x_q H ?_ | refine x_cm (fun h => ?_) (fun h => ?_) | (refine is_blt (b := .append) rfl ?_; go_loud (refine wl_rw rfl (fun K hK => c_aprS H rfl rfl rfl 0 (H.rd (b := g) (off := 0) (vs := [.int .u32 ((cy : Int))]) List.prefix_rfl) rfl (by intro u hu; simp only [List.mem_singleton] at hu; subst hu; rfl) (by omega) (by unfold maxLen; omega) (fun p1 c1 w1 S' hf H1 => hK _ _ ?_))); (clear hK K); (clear H; have H := H1; clear H1; (try dsimp only at H); (try clear hf)); (simp only [nrm, ↓reduceIte, Nat.reduceAdd])) | (revert H; first | (refine x_g ?_; intro g w1 hg hf H) | (refine x_s ?_; intro w1 hf H); (try clear hf)))
        rw [limbs_snoc] at H
        obtain ⟨p6, c6, e6, e7, hL⟩ := LR.of_row (H.rowo 0) Hl1.out
        injection e6 with e61 e62 e63
        subst e61 e63
        have HL := hid hL
        refine Calls.mono (trim_any (o ++ [cy]) e7 HL.out) ?_
        rintro e w1 ⟨rfl, hF⟩
        have HL2 := hid (hL.fr hF).trim
        have H1 := H.step hF (by simp)
        clear H hF hL HL e7
        have H := H1
        clear H1
        go_wp2_with (first | refine x_q H ?_ | refine x_cm (fun h => ?_) (fun h => ?_) | (revert H; first | (refine x_g ?_; intro g w1 hg hf H) | (refine x_s ?_; intro w1 hf H); (try clear hf)))
        go_ret
        rw [HV.out] at HL2
        exact ⟨_, _, by rw [HV.out]; rfl, H.fr, HL2.out⟩
end Go.Proofs.YtpmebjhlgdhchaaDoor
