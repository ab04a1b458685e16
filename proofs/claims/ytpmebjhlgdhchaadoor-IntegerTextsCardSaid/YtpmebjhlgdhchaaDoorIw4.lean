/-
  The integers: differences of magnitudes; the document's sums and differences of magnitudes.
-/
import Derived.Test.YtpmebjhlgdhchaaDoorIw3
namespace Go.Proofs.YtpmebjhlgdhchaaDoor
open Go.RowKit
set_option linter.unusedSimpArgs false
set_option linter.unusedVariables false
set_option maxHeartbeats 4000000
set_option maxRecDepth 100000
section
variable {P : Program} {w : World} {a : Act} {o : Oper}
theorem ev_subM {t t' : TypeId} {x y : Operand} (ho : o.op = .binOp .sub t x y t') {m n : Int} (hx : a.eval x = .int .u64 m) (hy : a.eval y = .int .u64 n) : (execOp a.eval o).run P w = .ok (.value (.int .u64 ((m - n) % 18446744073709551616))) w := by
  rw [ev_subW ho hx hy, IntKind.wrap_u64]
theorem ev_bit {t t' : TypeId} {x : Operand} (ho : o.op = .binOp .and t x (.const (.int .u64 1)) t') {m : Int} (hx : a.eval x = .int .u64 m) (h0 : 0 ≤ m := by omega) (h1 : m < 18446744073709551616 := by omega) : (execOp a.eval o).run P w = .ok (.value (.int .u64 (m % 2))) w :=
  ev_bin ho hx rfl (fun w => by
    have e := bits_mask .u64 64 (by decide) (fun n h0 h1 => wrap_inr (by simp only [inr]; omega)) 1 (by decide) m h0 (by omega)
    show (pure (Value.int .u64 (bits .and .u64 m 1)) : Sem Value).run P w = _
    have e2 : bits .and .u64 m 1 = m % 2 := e
    rw [e2]; rfl)
theorem ev_top {t t' : TypeId} {x : Operand} {kk : IntKind} (ho : o.op = .binOp .shr t x (.const (.int kk 63)) t') {m : Int} (hx : a.eval x = .int .u64 m) : (execOp a.eval o).run P w = .ok (.value (.int .u64 (m / 9223372036854775808))) w := by
  have e1 : (eqGuard .shr t x (.const (.int kk 63)) (.int .u64 m) (.int kk 63)).run P w = .ok () w := by unfold eqGuard; simp
  have hn : a.eval (.const (.int kk 63)) = .int kk 63 := rfl
  unfold execOp
  simp only [ho, hx, hn, Sem.run_bind, e1, Result.andThen_ok, binOp]
  rw [shift_shr_any _ _ _ _ (by decide)]
  rfl
end
theorem zeros_limbs (n : Nat) : (List.replicate n [Value.int .u32 0]).flatten = limbs (List.replicate n 0) := by
  induction n with
  | zero => rfl
  | succ n ih => rw [List.replicate_succ, List.flatten_cons, ih, List.replicate_succ]; rfl
/-- One limb of a difference, as the words have it. -/
theorem sub_word {Z : Int} {x y bo : Nat} (hZ : Z % 18446744073709551616 = ((x : Int) - (bo : Int) - (y : Int)) % 18446744073709551616) (hx : x < 4294967296) (hy : y < 4294967296) (hb : bo ≤ 1) : ∃ d b' : Nat, IntKind.u64.wrap Z % 4294967296 = (d : Int) ∧ IntKind.u64.wrap Z / 4294967296 % 2 = (b' : Int) ∧ IntKind.u64.wrap Z / 9223372036854775808 = (b' : Int) ∧ b' ≤ 1 ∧ d < 4294967296 ∧ x + 4294967296 * b' = d + y + bo := by
  rw [IntKind.wrap_u64]
  by_cases h : bo + y ≤ x
  · exact ⟨x - (bo + y), 0, by omega, by omega, by omega, by omega, by omega, by omega⟩
  · exact ⟨x + 4294967296 - (bo + y), 1, by omega, by omega, by omega, by omega, by omega, by omega⟩
theorem minus_any {w : World} {p q : Option Addr} {n m c d : Nat} (a b : List Nat) (hn : a.length = n) (hm : b.length = m) (hmn : m ≤ n) (hn0 : n ≤ 1000000) (hle : val b ≤ val a) (h : LR w p c a) (k : LR w q d b) :
    Calls Tryd.prog 52 #[.slice p n c, .slice q m d] w fun e w' => ∃ p' c', e = .returned (.slice p' (digs (val a - val b)).length c') ∧ Fr [] w w' ∧ LR w' p' c' (digs (val a - val b)) := by
  subst hn hm
  have Hh := hid h
  have Hk := hid k
  have Hle := hid hle
  clear h k hle
  have H := Hp.start [] w
  go_enter Tryd.func52, Tryd.ntmps52
  go_wp2_with (first | refine x_q H ?_ | refine x_cm (fun h => ?_) (fun h => ?_) | (revert H; first | (refine x_g ?_; intro g w1 hg hf H) | (refine x_s ?_; intro w1 hf H); (try clear hf)))
  rw [Int.toNat_natCast, zeros_limbs] at H
  go_loopw [6, 15] (fun s6 s15 wr => ∃ (i : Nat) (o : List Nat) (bo : Nat), i ≤ a.length ∧ s15 = .int .i64 i ∧ s6 = .int .u64 bo ∧ Hid (o.length = a.length) ∧ Hid (Lim o) ∧ bo ≤ 1 ∧ Hid (val (o.take i) + val (b.take i) = val (a.take i) + 4294967296 ^ i * bo) ∧ Hp [] w wr [.blk g (limbs o) 54]) (fun _ v _ => a.length - (intOf v).toNat)
  case atStart => exact ⟨0, List.replicate a.length 0, 0, Nat.zero_le _, rfl, rfl, hid List.length_replicate, hid (Lim.zeros _), Nat.zero_le _, hid rfl, H⟩
  case round =>
    clear H
    obtain ⟨i, o, bo, hi, rfl, rfl, Hol, Hlo, hbo, Hv, H⟩ := hrel
    by_cases hin : i < a.length
    · obtain ⟨x, hx⟩ : ∃ x, a[i]? = some x := ⟨_, List.getElem?_eq_getElem hin⟩
      have hxv := limbs_at hx
      have hxB := Hh.out.lim.at hx
      have Hx := hid hx
      clear hx
      have hio : i < o.length := by rw [Hol.out]; exact hin
      obtain ⟨b0, off, rfl, hb0, hcell⟩ := Hh.out.rd.rng (limbs_ne (i := i) hin)
      have H1 := H.pushRng (b := b0) (off := off) hb0 (by simp) hcell
      clear H hcell
      have H := H1
      clear H1
      by_cases him : i < b.length
      · obtain ⟨y, hy⟩ : ∃ y, b[i]? = some y := ⟨_, List.getElem?_eq_getElem him⟩
        have hyv := limbs_at hy
        have hyB := Hk.out.lim.at hy
        have Hy := hid hy
        clear hy
        obtain ⟨b1, off1, rfl, hb1, hcell1⟩ := Hk.out.rd.rng (limbs_ne (i := i) him)
        have H1 := H.pushRng (b := b1) (off := off1) hb1 (by simp) hcell1
        clear H hcell1
        have H := H1
        clear H1
        obtain ⟨dd, b', f1, f2, _, f4, f5, f6⟩ := sub_word (Z := IntKind.u64.wrap ((x : Int) - (bo : Int)) - (y : Int)) (x := x) (y := y) (bo := bo) (by rw [IntKind.wrap_u64]; omega) hxB hyB hbo
        have F1 := hid f1
        have F2 := hid f2
        have F6 := hid f6
        clear f1 f2 f6
        go_wp2_with (first | refine x_q H ?_ | refine x_cm (fun h => ?_) (fun h => ?_) | refine x_e (ev_low rfl rfl) ?_ | refine x_e (ev_bit rfl rfl) ?_ | refine x_e (ev_high rfl rfl) ?_ | refine x_e (ev_top rfl rfl) ?_ | refine x_e (ev_subM rfl rfl) ?_ | (revert H; first | (refine x_g ?_; intro g w1 hg hf H) | (refine x_s ?_; intro w1 hf H); (try clear hf)))
        rw [F1.out, limbs_set] at H
        go_roundw
        case rel => exact ⟨i + 1, o.set i dd, b', by omega, by go_num, by rw [F2.out], hid (by rw [List.length_set]; exact Hol.out), hid (Hlo.out.set i f5), f4, hid (by rw [take_set_succ _ _ _ hio, val_snoc, List.length_take, Nat.min_eq_left (by omega), val_take_succ Hx.out, val_take_succ Hy.out]; exact minus_round Hv.out F6.out), H.sub (by repeat first | exact List.Sublist.refl _ | exact List.nil_sublist _ | apply List.Sublist.cons_cons | apply List.Sublist.cons)⟩
        case measure => (simp [intOf]; try omega)
      · obtain ⟨dd, b', f1, f2, _, f4, f5, f6⟩ := sub_word (Z := (x : Int) - (bo : Int)) (x := x) (y := 0) (bo := bo) (by omega) hxB (by decide) hbo
        have F1 := hid f1
        have F2 := hid f2
        have F6 := hid f6
        clear f1 f2 f6
        go_wp2_with (first | refine x_q H ?_ | refine x_cm (fun h => ?_) (fun h => ?_) | refine x_e (ev_low rfl rfl) ?_ | refine x_e (ev_bit rfl rfl) ?_ | refine x_e (ev_high rfl rfl) ?_ | refine x_e (ev_top rfl rfl) ?_ | refine x_e (ev_subM rfl rfl) ?_ | (revert H; first | (refine x_g ?_; intro g w1 hg hf H) | (refine x_s ?_; intro w1 hf H); (try clear hf)))
        rw [F1.out, limbs_set] at H
        go_roundw
        case rel => exact ⟨i + 1, o.set i dd, b', by omega, by go_num, by rw [F2.out], hid (by rw [List.length_set]; exact Hol.out), hid (Hlo.out.set i f5), f4, hid (by
          rw [take_set_succ _ _ _ hio, val_snoc, List.length_take, Nat.min_eq_left (by omega), val_take_succ Hx.out, take_over (by omega)]
          have := minus_round Hv.out F6.out
          simpa using this), H.sub (by repeat first | exact List.Sublist.refl _ | exact List.nil_sublist _ | apply List.Sublist.cons_cons | apply List.Sublist.cons)⟩
        case measure => (simp [intOf]; try omega)
    · have e : i = a.length := by omega
      have hV : val o = val a - val b := by
        have h1 := Hv.out
        rw [e, List.take_of_length_le (by rw [Hol.out]; exact Nat.le_refl _), List.take_of_length_le (Nat.le_refl _), List.take_of_length_le hmn] at h1
        have h2 := val_lt Hlo.out
        rw [Hol.out] at h2
        exact (minus_end h2 Hle.out h1).2
      have HV := hid hV
      clear e hV
      go_wp2_with (first | refine x_q H ?_ | refine x_cm (fun h => ?_) (fun h => ?_) | (revert H; first | (refine x_g ?_; intro g w1 hg hf H) | (refine x_s ?_; intro w1 hf H); (try clear hf)))
      have hL : LR _ (some ⟨g, 0, none⟩) a.length o := LR.of_blk (pad := []) (by rw [List.append_nil]; exact H.at g) Hlo.out (by rw [Hol.out]; exact Nat.le_refl _) (by unfold maxLen; omega)
      have HL := hid hL
      refine Calls.mono (trim_any o Hol.out HL.out) ?_
      rintro e w1 ⟨rfl, hF⟩
      have HL2 := hid (hL.fr hF).trim
      have H1 := H.step hF (by simp)
      clear H hF hL HL
      have H := H1
      clear H1
      go_wp2_with (first | refine x_q H ?_ | refine x_cm (fun h => ?_) (fun h => ?_) | (revert H; first | (refine x_g ?_; intro g w1 hg hf H) | (refine x_s ?_; intro w1 hf H); (try clear hf)))
      go_ret
      rw [HV.out] at HL2
      exact ⟨_, _, by rw [HV.out]; rfl, H.fr, HL2.out⟩
theorem subMag_any {w : World} {p q : Option Addr} {n m c d : Nat} (a b : List Nat) (hn : a.length = n) (hm : b.length = m) (hmn : m ≤ n) (hn0 : n ≤ 1000000) (hle : val b ≤ val a) (h : LR w p c a) (k : LR w q d b) :
    Calls Tryd.prog 62 #[.slice p n c, .slice q m d] w fun e w' => ∃ (o : List Nat) (p' : Option Addr) (c' : Nat), e = .returned (.slice p' o.length c') ∧ Fr [] w w' ∧ LR w' p' c' o ∧ val o = val a - val b ∧ o.length = n := by
  subst hn hm
  have Hh := hid h
  have Hk := hid k
  have Hle := hid hle
  clear h k hle
  have H := (Hp.start [] w).newRow 0 (e := 54) (sz := 1)
  go_enter Tryd.func62, Tryd.ntmps62
  go_wp2_with (first | refine x_q H ?_ | refine x_cm (fun h => ?_) (fun h => ?_) | (revert H; first | (refine x_g ?_; intro g w1 hg hf H) | (refine x_s ?_; intro w1 hf H); (try clear hf)))
  go_loopw [5, 6, 7] (fun s5 s6 s7 wr => ∃ (i : Nat) (o : List Nat) (bo : Nat) (pv : Value) (S : List Nat), i ≤ a.length ∧ s7 = .int .i64 i ∧ s6 = .int .u64 bo ∧ s5 = pv ∧ Hid (o.length = i) ∧ Hid (Lim o) ∧ bo ≤ 1 ∧ Hid (val o + val (b.take i) = val (a.take i) + 4294967296 ^ i * bo) ∧ Hp [] w wr [.obj 0 S (RowAt 54 1 pv i (limbs o) S)]) (fun _ _ v _ => a.length - (intOf v).toNat)
  case atStart => exact ⟨0, [], 0, _, _, Nat.zero_le _, rfl, rfl, rfl, hid rfl, hid Lim.nil, Nat.zero_le _, hid rfl, H⟩
  case round =>
    clear H
    obtain ⟨i, o, bo, pv, S, hi, rfl, rfl, hpv, Hol, Hlo, hbo, Hv, H⟩ := hrel
    obtain ⟨p5, c5, he, _⟩ := (H.rowo 0).form
    subst he
    subst hpv
    by_cases hin : i < a.length
    · obtain ⟨x, hx⟩ : ∃ x, a[i]? = some x := ⟨_, List.getElem?_eq_getElem hin⟩
      have hxv := limbs_at hx
      have hxB := Hh.out.lim.at hx
      have Hx := hid hx
      clear hx
      obtain ⟨b0, off, rfl, hb0, hcell⟩ := Hh.out.rd.rng (limbs_ne (i := i) hin)
      have H1 := H.pushRng (b := b0) (off := off) hb0 (by simp) hcell
      clear H hcell
      have H := H1
      clear H1
      by_cases him : i < b.length
      · obtain ⟨y, hy⟩ : ∃ y, b[i]? = some y := ⟨_, List.getElem?_eq_getElem him⟩
        have hyv := limbs_at hy
        have hyB := Hk.out.lim.at hy
        have Hy := hid hy
        clear hy
        obtain ⟨b1, off1, rfl, hb1, hcell1⟩ := Hk.out.rd.rng (limbs_ne (i := i) him)
        have H1 := H.pushRng (b := b1) (off := off1) hb1 (by simp) hcell1
        clear H hcell1
        have H := H1
        clear H1
        obtain ⟨dd, b', f1, _, f3, f4, f5, f6⟩ := sub_word (Z := IntKind.u64.wrap ((x : Int) - (bo : Int)) - (y : Int)) (x := x) (y := y) (bo := bo) (by rw [IntKind.wrap_u64]; omega) hxB hyB hbo
        have F1 := hid f1
        have F3 := hid f3
        have F6 := hid f6
        clear f1 f3 f6
        go_wp2_with (first | refine x_q H ?_ | refine x_cm (fun h => ?_) (fun h => ?_) | refine x_e (ev_low rfl rfl) ?_ | refine x_e (ev_bit rfl rfl) ?_ | refine x_e (ev_high rfl rfl) ?_ | refine x_e (ev_top rfl rfl) ?_ | refine x_e (ev_subM rfl rfl) ?_ | (refine is_blt (b := .append) rfl ?_; go_loud (refine wl_rw rfl (fun K hK => c_aprS H rfl rfl rfl 0 (H.rd (b := g) (off := 0) (vs := [.int .u32 (IntKind.u64.wrap (IntKind.u64.wrap ((x : Int) - (bo : Int)) - (y : Int)) % 4294967296)]) List.prefix_rfl) rfl (by intro u hu; simp only [List.mem_singleton] at hu; subst hu; rfl) (by omega) (by unfold maxLen; omega) (fun p1 c1 w1 S' hf H1 => hK _ _ ?_))); (clear hK K); (clear H; have H := H1; clear H1; (try dsimp only at H); (try clear hf)); (simp only [nrm, ↓reduceIte, Nat.reduceAdd])) | (revert H; first | (refine x_g ?_; intro g w1 hg hf H) | (refine x_s ?_; intro w1 hf H); (try clear hf)))
        rw [F1.out, limbs_snoc] at H
        go_roundw
        case rel => exact ⟨i + 1, o ++ [dd], b', _, S', by omega, by go_num, by rw [F3.out], rfl, hid (by rw [List.length_append, Hol.out]; rfl), hid (Hlo.out.app (Lim.cons f5 Lim.nil)), f4, hid (by rw [val_snoc, Hol.out, val_take_succ Hx.out, val_take_succ Hy.out]; exact minus_round Hv.out F6.out), H.sub (by repeat first | exact List.Sublist.refl _ | exact List.nil_sublist _ | apply List.Sublist.cons_cons | apply List.Sublist.cons)⟩
        case measure => (simp [intOf]; try omega)
      · obtain ⟨dd, b', f1, _, f3, f4, f5, f6⟩ := sub_word (Z := (x : Int) - (bo : Int)) (x := x) (y := 0) (bo := bo) (by omega) hxB (by decide) hbo
        have F1 := hid f1
        have F3 := hid f3
        have F6 := hid f6
        clear f1 f3 f6
        go_wp2_with (first | refine x_q H ?_ | refine x_cm (fun h => ?_) (fun h => ?_) | refine x_e (ev_low rfl rfl) ?_ | refine x_e (ev_bit rfl rfl) ?_ | refine x_e (ev_high rfl rfl) ?_ | refine x_e (ev_top rfl rfl) ?_ | refine x_e (ev_subM rfl rfl) ?_ | (refine is_blt (b := .append) rfl ?_; go_loud (refine wl_rw rfl (fun K hK => c_aprS H rfl rfl rfl 0 (H.rd (b := g) (off := 0) (vs := [.int .u32 (IntKind.u64.wrap ((x : Int) - (bo : Int)) % 4294967296)]) List.prefix_rfl) rfl (by intro u hu; simp only [List.mem_singleton] at hu; subst hu; rfl) (by omega) (by unfold maxLen; omega) (fun p1 c1 w1 S' hf H1 => hK _ _ ?_))); (clear hK K); (clear H; have H := H1; clear H1; (try dsimp only at H); (try clear hf)); (simp only [nrm, ↓reduceIte, Nat.reduceAdd])) | (revert H; first | (refine x_g ?_; intro g w1 hg hf H) | (refine x_s ?_; intro w1 hf H); (try clear hf)))
        rw [F1.out, limbs_snoc] at H
        go_roundw
        case rel => exact ⟨i + 1, o ++ [dd], b', _, S', by omega, by go_num, by rw [F3.out], rfl, hid (by rw [List.length_append, Hol.out]; rfl), hid (Hlo.out.app (Lim.cons f5 Lim.nil)), f4, hid (by
          rw [val_snoc, Hol.out, val_take_succ Hx.out, take_over (by omega)]
          have := minus_round Hv.out F6.out
          simpa using this), H.sub (by repeat first | exact List.Sublist.refl _ | exact List.nil_sublist _ | apply List.Sublist.cons_cons | apply List.Sublist.cons)⟩
        case measure => (simp [intOf]; try omega)
    · have e : i = a.length := by omega
      have hV : val o = val a - val b := by
        have h1 := Hv.out
        rw [e, List.take_of_length_le (Nat.le_refl _), List.take_of_length_le hmn] at h1
        have h2 := val_lt Hlo.out
        rw [Hol.out, e] at h2
        exact (minus_end h2 Hle.out h1).2
      have HV := hid hV
      have Hi := hid e
      clear e hV
      go_wp2_with (first | refine x_q H ?_ | refine x_cm (fun h => ?_) (fun h => ?_) | (revert H; first | (refine x_g ?_; intro g w1 hg hf H) | (refine x_s ?_; intro w1 hf H); (try clear hf)))
      go_ret
      obtain ⟨p6, c6, e6, e7, hL⟩ := LR.of_row (H.rowo 0) Hlo.out
      injection e6 with e61 e62 e63
      subst e61 e63
      exact ⟨o, _, _, by rw [e7]; rfl, H.fr, hL, HV.out, by rw [e7, Hi.out]⟩
theorem addMag_any {w : World} {p q : Option Addr} {n m c d : Nat} (a b : List Nat) (hn : a.length = n) (hm : b.length = m) (hn0 : n ≤ 1000000) (hm0 : m ≤ 1000000) (h : LR w p c a) (k : LR w q d b) :
    Calls Tryd.prog 60 #[.slice p n c, .slice q m d] w fun e w' => ∃ (o : List Nat) (p' : Option Addr) (c' : Nat), e = .returned (.slice p' o.length c') ∧ Fr [] w w' ∧ LR w' p' c' o ∧ val o = val a + val b ∧ o.length ≤ n + m + 1 := by
  subst hn hm
  have Hh := hid h
  have Hk := hid k
  clear h k
  have H := (Hp.start [] w).newRow 0 (e := 54) (sz := 1)
  go_enter Tryd.func60, Tryd.ntmps60
  go_wp2_with (first | refine x_q H ?_ | refine x_cm (fun h => ?_) (fun h => ?_) | (revert H; first | (refine x_g ?_; intro g w1 hg hf H) | (refine x_s ?_; intro w1 hf H); (try clear hf)))
  go_loopw [5, 6, 7] (fun s5 s6 s7 wr => ∃ (i : Nat) (o : List Nat) (cy : Nat) (pv : Value) (S : List Nat), (i ≤ a.length ∨ i ≤ b.length) ∧ s7 = .int .i64 i ∧ s6 = .int .u64 cy ∧ s5 = pv ∧ Hid (o.length = i) ∧ Hid (Lim o) ∧ cy ≤ 1 ∧ Hid (val o + 4294967296 ^ i * cy = val (a.take i) + val (b.take i)) ∧ Hp [] w wr [.obj 0 S (RowAt 54 1 pv i (limbs o) S)]) (fun _ _ v _ => a.length + b.length - (intOf v).toNat)
  case atStart => exact ⟨0, [], 0, _, _, .inl (Nat.zero_le _), rfl, rfl, rfl, hid rfl, hid Lim.nil, Nat.zero_le _, hid rfl, H⟩
  case round =>
    clear H
    obtain ⟨i, o, cy, pv, S, hi, rfl, rfl, hpv, Hol, Hlo, hcy, Hv, H⟩ := hrel
    obtain ⟨p5, c5, he, _⟩ := (H.rowo 0).form
    subst he
    subst hpv
    have hi2 : i ≤ 1000000 := by omega
    by_cases hia : i < a.length
    · obtain ⟨x, hx⟩ : ∃ x, a[i]? = some x := ⟨_, List.getElem?_eq_getElem hia⟩
      have hxv := limbs_at hx
      have hxB := Hh.out.lim.at hx
      have Hx := hid hx
      clear hx
      obtain ⟨b0, off, rfl, hb0, hcell⟩ := Hh.out.rd.rng (limbs_ne (i := i) hia)
      have H1 := H.pushRng (b := b0) (off := off) hb0 (by simp) hcell
      clear H hcell
      have H := H1
      clear H1
      by_cases hib : i < b.length
      · obtain ⟨y, hy⟩ : ∃ y, b[i]? = some y := ⟨_, List.getElem?_eq_getElem hib⟩
        have hyv := limbs_at hy
        have hyB := Hk.out.lim.at hy
        have Hy := hid hy
        clear hy
        obtain ⟨b1, off1, rfl, hb1, hcell1⟩ := Hk.out.rd.rng (limbs_ne (i := i) hib)
        have H1 := H.pushRng (b := b1) (off := off1) hb1 (by simp) hcell1
        clear H hcell1
        have H := H1
        clear H1
        go_wp2_with (first | refine x_q H ?_ | refine x_cm (fun h => ?_) (fun h => ?_) | refine x_e (ev_low rfl rfl) ?_ | refine x_e (ev_bit rfl rfl) ?_ | refine x_e (ev_high rfl rfl) ?_ | refine x_e (ev_top rfl rfl) ?_ | refine x_e (ev_subM rfl rfl) ?_ | (refine is_blt (b := .append) rfl ?_; go_loud (refine wl_rw rfl (fun K hK => c_aprS H rfl rfl rfl 0 (H.rd (b := g) (off := 0) (vs := [.int .u32 (((cy : Int) + (x : Int) + (y : Int)) % 4294967296)]) List.prefix_rfl) rfl (by intro u hu; simp only [List.mem_singleton] at hu; subst hu; rfl) (by omega) (by unfold maxLen; omega) (fun p1 c1 w1 S' hf H1 => hK _ _ ?_))); (clear hK K); (clear H; have H := H1; clear H1; (try dsimp only at H); (try clear hf)); (simp only [nrm, ↓reduceIte, Nat.reduceAdd])) | (revert H; first | (refine x_g ?_; intro g w1 hg hf H) | (refine x_s ?_; intro w1 hf H); (try clear hf)))
        have e1 : ((cy : Int) + (x : Int) + (y : Int)) % 4294967296 = (((x + y + cy) % 4294967296 : Nat) : Int) := by omega
        rw [e1, limbs_snoc] at H
        go_roundw
        case rel => exact ⟨i + 1, o ++ [(x + y + cy) % 4294967296], (x + y + cy) / 4294967296, _, S', by omega, by go_num, by rw [show ((cy : Int) + (x : Int) + (y : Int)) / 4294967296 = (((x + y + cy) / 4294967296 : Nat) : Int) by omega], rfl, hid (by rw [List.length_append, Hol.out]; rfl), hid (Hlo.out.app (Lim.cons (Nat.mod_lt _ (by decide)) Lim.nil)), by omega, hid (by rw [plus_round Hol.out Hv.out rfl, val_take_succ Hx.out, val_take_succ Hy.out]; omega), H.sub (by repeat first | exact List.Sublist.refl _ | exact List.nil_sublist _ | apply List.Sublist.cons_cons | apply List.Sublist.cons)⟩
        case measure => (simp [intOf]; try omega)
      · go_wp2_with (first | refine x_q H ?_ | refine x_cm (fun h => ?_) (fun h => ?_) | refine x_e (ev_low rfl rfl) ?_ | refine x_e (ev_bit rfl rfl) ?_ | refine x_e (ev_high rfl rfl) ?_ | refine x_e (ev_top rfl rfl) ?_ | refine x_e (ev_subM rfl rfl) ?_ | (refine is_blt (b := .append) rfl ?_; go_loud (refine wl_rw rfl (fun K hK => c_aprS H rfl rfl rfl 0 (H.rd (b := g) (off := 0) (vs := [.int .u32 (((cy : Int) + (x : Int)) % 4294967296)]) List.prefix_rfl) rfl (by intro u hu; simp only [List.mem_singleton] at hu; subst hu; rfl) (by omega) (by unfold maxLen; omega) (fun p1 c1 w1 S' hf H1 => hK _ _ ?_))); (clear hK K); (clear H; have H := H1; clear H1; (try dsimp only at H); (try clear hf)); (simp only [nrm, ↓reduceIte, Nat.reduceAdd])) | (revert H; first | (refine x_g ?_; intro g w1 hg hf H) | (refine x_s ?_; intro w1 hf H); (try clear hf)))
        have e1 : ((cy : Int) + (x : Int)) % 4294967296 = (((x + 0 + cy) % 4294967296 : Nat) : Int) := by omega
        rw [e1, limbs_snoc] at H
        go_roundw
        case rel => exact ⟨i + 1, o ++ [(x + 0 + cy) % 4294967296], (x + 0 + cy) / 4294967296, _, S', by omega, by go_num, by rw [show ((cy : Int) + (x : Int)) / 4294967296 = (((x + 0 + cy) / 4294967296 : Nat) : Int) by omega], rfl, hid (by rw [List.length_append, Hol.out]; rfl), hid (Hlo.out.app (Lim.cons (Nat.mod_lt _ (by decide)) Lim.nil)), by omega, hid (by rw [plus_round Hol.out Hv.out rfl, val_take_succ Hx.out, take_over (by omega)]; omega), H.sub (by repeat first | exact List.Sublist.refl _ | exact List.nil_sublist _ | apply List.Sublist.cons_cons | apply List.Sublist.cons)⟩
        case measure => (simp [intOf]; try omega)
    · by_cases hib : i < b.length
      · obtain ⟨y, hy⟩ : ∃ y, b[i]? = some y := ⟨_, List.getElem?_eq_getElem hib⟩
        have hyv := limbs_at hy
        have hyB := Hk.out.lim.at hy
        have Hy := hid hy
        clear hy
        obtain ⟨b1, off1, rfl, hb1, hcell1⟩ := Hk.out.rd.rng (limbs_ne (i := i) hib)
        have H1 := H.pushRng (b := b1) (off := off1) hb1 (by simp) hcell1
        clear H hcell1
        have H := H1
        clear H1
        go_wp2_with (first | refine x_q H ?_ | refine x_cm (fun h => ?_) (fun h => ?_) | refine x_e (ev_low rfl rfl) ?_ | refine x_e (ev_bit rfl rfl) ?_ | refine x_e (ev_high rfl rfl) ?_ | refine x_e (ev_top rfl rfl) ?_ | refine x_e (ev_subM rfl rfl) ?_ | (refine is_blt (b := .append) rfl ?_; go_loud (refine wl_rw rfl (fun K hK => c_aprS H rfl rfl rfl 0 (H.rd (b := g) (off := 0) (vs := [.int .u32 (((cy : Int) + (y : Int)) % 4294967296)]) List.prefix_rfl) rfl (by intro u hu; simp only [List.mem_singleton] at hu; subst hu; rfl) (by omega) (by unfold maxLen; omega) (fun p1 c1 w1 S' hf H1 => hK _ _ ?_))); (clear hK K); (clear H; have H := H1; clear H1; (try dsimp only at H); (try clear hf)); (simp only [nrm, ↓reduceIte, Nat.reduceAdd])) | (revert H; first | (refine x_g ?_; intro g w1 hg hf H) | (refine x_s ?_; intro w1 hf H); (try clear hf)))
        have e1 : ((cy : Int) + (y : Int)) % 4294967296 = (((0 + y + cy) % 4294967296 : Nat) : Int) := by omega
        rw [e1, limbs_snoc] at H
        go_roundw
        case rel => exact ⟨i + 1, o ++ [(0 + y + cy) % 4294967296], (0 + y + cy) / 4294967296, _, S', by omega, by go_num, by rw [show ((cy : Int) + (y : Int)) / 4294967296 = (((0 + y + cy) / 4294967296 : Nat) : Int) by omega], rfl, hid (by rw [List.length_append, Hol.out]; rfl), hid (Hlo.out.app (Lim.cons (Nat.mod_lt _ (by decide)) Lim.nil)), by omega, hid (by rw [plus_round Hol.out Hv.out rfl, take_over (l := a) (by omega), val_take_succ Hy.out]; omega), H.sub (by repeat first | exact List.Sublist.refl _ | exact List.nil_sublist _ | apply List.Sublist.cons_cons | apply List.Sublist.cons)⟩
        case measure => (simp [intOf]; try omega)
      · have HV : Hid (val (o ++ [cy]) = val a + val b) := hid (by
          have := Hv.out
          rw [List.take_of_length_le (by omega), List.take_of_length_le (by omega)] at this
          rw [val_snoc, Hol.out, this])
        have Hl1 : Hid (Lim (o ++ [cy])) := hid (Hlo.out.app (Lim.cons (by omega) Lim.nil))
        go_wp2_with (first | refine x_q H ?_ | refine x_cm (fun h => ?_) (fun h => ?_) | refine x_e (ev_low rfl rfl) ?_ | refine x_e (ev_bit rfl rfl) ?_ | refine x_e (ev_high rfl rfl) ?_ | refine x_e (ev_top rfl rfl) ?_ | refine x_e (ev_subM rfl rfl) ?_ | (refine is_blt (b := .append) rfl ?_; go_loud (refine wl_rw rfl (fun K hK => c_aprS H rfl rfl rfl 0 (H.rd (b := g) (off := 0) (vs := [.int .u32 ((cy : Int))]) List.prefix_rfl) rfl (by intro u hu; simp only [List.mem_singleton] at hu; subst hu; rfl) (by omega) (by unfold maxLen; omega) (fun p1 c1 w1 S' hf H1 => hK _ _ ?_))); (clear hK K); (clear H; have H := H1; clear H1; (try dsimp only at H); (try clear hf)); (simp only [nrm, ↓reduceIte, Nat.reduceAdd])) | (revert H; first | (refine x_g ?_; intro g w1 hg hf H) | (refine x_s ?_; intro w1 hf H); (try clear hf)))
        all_goals
          rw [limbs_snoc] at H
          obtain ⟨p6, c6, e6, e7, hL⟩ := LR.of_row (H.rowo 0) Hl1.out
          injection e6 with e61 e62 e63
          subst e61 e63
          go_ret
          exact ⟨o ++ [cy], _, _, by rw [e7]; rfl, H.fr, hL, HV.out, by rw [e7]; omega⟩
end Go.Proofs.YtpmebjhlgdhchaaDoor
