import Derived.Test.YthbeeeclgbpopaaGreatDoorYIw3
import Derived.Deep.DeepCutAuto
import Derived.Deep.CutBlock
namespace Go.Proofs.YthbeeeclgbpopaaGreatDoor
open Go.RowKit
set_option linter.unusedSimpArgs false
set_option linter.unusedVariables false
set_option maxHeartbeats 4000000
set_option maxRecDepth 100000
section
variable {P : Program} {w : World} {a : Act} {o : Oper}
theorem ev_bit {t t' : TypeId} {x : Operand} (ho : o.op = .binOp .and t x (.const (.int .u64 1)) t') {m : Int} (hx : a.eval x = .int .u64 m) (h0 : 0 ≤ m := by omega) (h1 : m < 18446744073709551616 := by omega) : (execOp a.eval o).run P w = .ok (.value (.int .u64 (m % 2))) w :=
 ev_bin ho hx rfl (fun w => by
  have e := bits_mask .u64 64 (by decide) (fun n h0 h1 => wrap_inr (by simp only [inr]; omega)) 1 (by decide) m h0 (by omega)
  show (pure (Value.int .u64 (bits .and .u64 m 1)) : Sem Value).run P w = _
  have e2 : bits .and .u64 m 1 = m % 2 := e
  rw [e2]; rfl)
theorem ev_top {t t' : TypeId} {x : Operand} {kk : IntKind} (ho : o.op = .binOp .shr t x (.const (.int kk 63)) t') {m : Int} (hx : a.eval x = .int .u64 m) : (execOp a.eval o).run P w = .ok (.value (.int .u64 (m / 9223372036854775808))) w := by
 have e1 : (eqGuard .shr t x (.const (.int kk 63)) (.int .u64 m) (.int kk 63)).run P w = .ok () w := by unfold eqGuard; simp
 have hn : a.eval (.const (.int kk 63)) = .int kk 63 := rfl
 unfold execOp
 simp only [ho, hx, hn, Sem.run_bind, e1, Result.andThen_ok, binOp]
 rw [shift_shr_any _ _ _ _ (by decide)]
 rfl
end
theorem zeros_limbs (n : Nat) : (List.replicate n [Value.int .u32 0]).flatten = limbs (List.replicate n 0) := by
 induction n with
 | zero => rfl
 | succ n ih => rw [List.replicate_succ, List.flatten_cons, ih, List.replicate_succ]; rfl
theorem sub_word {Z : Int} {x y bo : Nat} (hZ : Z % 18446744073709551616 = ((x : Int) - (bo : Int) - (y : Int)) % 18446744073709551616) (hx : x < 4294967296) (hy : y < 4294967296) (hb : bo ≤ 1) : ∃ d b' : Nat, IntKind.u64.wrap Z % 4294967296 = (d : Int) ∧ IntKind.u64.wrap Z / 4294967296 % 2 = (b' : Int) ∧ IntKind.u64.wrap Z / 9223372036854775808 = (b' : Int) ∧ b' ≤ 1 ∧ d < 4294967296 ∧ x + 4294967296 * b' = d + y + bo := by
 rw [IntKind.wrap_u64]
 by_cases h : bo + y ≤ x
 ·exact ⟨x - (bo + y), 0, by omega, by omega, by omega, by omega, by omega, by omega⟩
 ·exact ⟨x + 4294967296 - (bo + y), 1, by omega, by omega, by omega, by omega, by omega, by omega⟩
theorem minus_any {w : World} {p q : Option Addr} {n m c d : Nat} (a b : List Nat) (hn : a.length = n) (hm : b.length = m) (hmn : m ≤ n) (hn0 : n ≤ 1000000) (hle : val b ≤ val a) (h : LR w p c a) (k : LR w q d b) :
  Calls Tryz.prog 143 #[.slice p n c, .slice q m d] w fun e w' => ∃ p' c', e = .returned (.slice p' (digs (val a - val b)).length c') ∧ Fr [] w w' ∧ LR w' p' c' (digs (val a - val b)) := by
 subst hn hm
 have Hh := hid h
 have Hk := hid k
 have Hle := hid hle
 clear h k hle
 have H := Hp.start [] w
 go_enter Tryz.func143, Tryz.ntmps143
 go_wp2_with (revert H; refine x_g ?_; intro g w1 hg hf H; (try clear hf))
 rw [Int.toNat_natCast, zeros_limbs] at H
 go_loopw [6, 15] (fun s6 s15 wr => ∃ (i : Nat) (o : List Nat) (bo : Nat), i ≤ a.length ∧ s15 = .int .i64 i ∧ s6 = .int .u64 bo ∧ Hid (o.length = a.length) ∧ Hid (Lim o) ∧ bo ≤ 1 ∧ Hid (val (o.take i) + val (b.take i) = val (a.take i) + 4294967296 ^ i * bo) ∧ Hp [] w wr [.blk g (limbs o) 99]) (fun _ v _ => a.length - (intOf v).toNat)
 case atStart => exact ⟨0, List.replicate a.length 0, 0, Nat.zero_le _, rfl, rfl, hid List.length_replicate, hid (Lim.zeros _), Nat.zero_le _, hid rfl, H⟩
 case round =>
  clear H
  obtain ⟨i, o, bo, hi, rfl, rfl, Hol, Hlo, hbo, Hv, H⟩ := hrel
  by_cases hin : i < a.length
  ·obtain ⟨x, hx⟩ : ∃ x, a[i]? = some x := ⟨_, List.getElem?_eq_getElem hin⟩
   have hxv := limbs_at hx
   have hxB := Hh.out.lim.at hx
   have Hx := hid hx
   clear hx
   have hio : i < o.length := by rw [Hol.out]; exact hin
   obtain ⟨b0, off, rfl, hb0, hcell⟩ := Hh.out.rd.rng (limbs_ne (i := i) hin)
   have H1 := H.pushRng (b := b0) (off := off) hb0 (by simp) hcell
   clear H hcell
   have H := H1
   clear H1
   by_cases him : i < b.length
   ·obtain ⟨y, hy⟩ : ∃ y, b[i]? = some y := ⟨_, List.getElem?_eq_getElem him⟩
    have hyv := limbs_at hy
    have hyB := Hk.out.lim.at hy
    have Hy := hid hy
    clear hy
    obtain ⟨b1, off1, rfl, hb1, hcell1⟩ := Hk.out.rd.rng (limbs_ne (i := i) him)
    have H1 := H.pushRng (b := b1) (off := off1) hb1 (by simp) hcell1
    clear H hcell1
    have H := H1
    clear H1
    obtain ⟨dd, b', f1, f2, _, f4, f5, f6⟩ := sub_word (Z := IntKind.u64.wrap ((x : Int) - (bo : Int)) - (y : Int)) (x := x) (y := y) (bo := bo) (by rw [IntKind.wrap_u64]; omega) hxB hyB hbo
    have F1 := hid f1
    have F2 := hid f2
    have F6 := hid f6
    clear f1 f2 f6
    go_wp2_with (first | refine x_q H ?_ | refine x_e (ev_low rfl rfl) ?_ | refine x_e (ev_bit rfl rfl) ?_ | refine x_e (ev_high rfl rfl) ?_ | (revert H; refine x_s ?_; intro w1 hf H; (try clear hf)))
    rw [F1.out, limbs_set] at H
    go_roundw
    case rel => exact ⟨i + 1, o.set i dd, b', by omega, by go_num, by rw [F2.out], hid (by rw [List.length_set]; exact Hol.out), hid (Hlo.out.set i f5), f4, hid (by rw [take_set_succ _ _ _ hio, val_snoc, List.length_take, Nat.min_eq_left (by omega), val_take_succ Hx.out, val_take_succ Hy.out]; exact minus_round Hv.out F6.out), H.sub (by repeat first | exact List.Sublist.refl _ | exact List.nil_sublist _ | apply List.Sublist.cons_cons | apply List.Sublist.cons)⟩
    case measure => (simp [intOf]; try omega)
   ·obtain ⟨dd, b', f1, f2, _, f4, f5, f6⟩ := sub_word (Z := (x : Int) - (bo : Int)) (x := x) (y := 0) (bo := bo) (by omega) hxB (by decide) hbo
    have F1 := hid f1
    have F2 := hid f2
    have F6 := hid f6
    clear f1 f2 f6
    go_wp2_with (first | refine x_q H ?_ | refine x_e (ev_low rfl rfl) ?_ | refine x_e (ev_bit rfl rfl) ?_ | refine x_e (ev_high rfl rfl) ?_ | (revert H; refine x_s ?_; intro w1 hf H; (try clear hf)))
    rw [F1.out, limbs_set] at H
    go_roundw
    case rel => exact ⟨i + 1, o.set i dd, b', by omega, by go_num, by rw [F2.out], hid (by rw [List.length_set]; exact Hol.out), hid (Hlo.out.set i f5), f4, hid (by
     rw [take_set_succ _ _ _ hio, val_snoc, List.length_take, Nat.min_eq_left (by omega), val_take_succ Hx.out, take_over (by omega)]
     have := minus_round Hv.out F6.out
     simpa using this), H.sub (by repeat first | exact List.Sublist.refl _ | exact List.nil_sublist _ | apply List.Sublist.cons_cons | apply List.Sublist.cons)⟩
    case measure => (simp [intOf]; try omega)
  ·have e : i = a.length := by omega
   have hV : val o = val a - val b := by
    have h1 := Hv.out
    rw [e, List.take_of_length_le (by rw [Hol.out]; exact Nat.le_refl _), List.take_of_length_le (Nat.le_refl _), List.take_of_length_le hmn] at h1
    have h2 := val_lt Hlo.out
    rw [Hol.out] at h2
    exact (minus_end h2 Hle.out h1).2
   have HV := hid hV
   clear e hV
   go_wp2_with (refine x_q H ?_)
   have hL : LR _ (some ⟨g, 0, none⟩) a.length o := LR.of_blk (pad := []) (by rw [List.append_nil]; exact H.at g) Hlo.out (by rw [Hol.out]; exact Nat.le_refl _) (by unfold maxLen; omega)
   have HL := hid hL
   refine Calls.mono (trim_any o Hol.out HL.out) ?_
   rintro e w1 ⟨rfl, hF⟩
   have HL2 := hid (hL.fr hF).trim
   have H1 := H.step hF (by simp)
   clear H hF hL HL
   have H := H1
   clear H1
   go_wp2_with fail
   go_ret
   rw [HV.out] at HL2
   exact ⟨_, _, by rw [HV.out]; rfl, H.fr, HL2.out⟩
theorem subMag_any {w : World} {p q : Option Addr} {n m c d : Nat} (a b : List Nat) (hn : a.length = n) (hm : b.length = m) (hmn : m ≤ n) (hn0 : n ≤ 1000000) (hle : val b ≤ val a) (h : LR w p c a) (k : LR w q d b) :
  Calls Tryz.prog 139 #[.slice p n c, .slice q m d] w fun e w' => ∃ (o : List Nat) (p' : Option Addr) (c' : Nat), e = .returned (.slice p' o.length c') ∧ Fr [] w w' ∧ LR w' p' c' o ∧ val o = val a - val b ∧ o.length = n := by
 subst hn hm
 have Hh := hid h
 have Hk := hid k
 have Hle := hid hle
 clear h k hle
 have H := (Hp.start [] w).newRow 0 (e := 99) (sz := 1)
 go_enter Tryz.func139, Tryz.ntmps139
 go_wp2_with fail
 go_loopw [5, 6, 7] (fun s5 s6 s7 wr => ∃ (i : Nat) (o : List Nat) (bo : Nat) (pv : Value) (S : List Nat), i ≤ a.length ∧ s7 = .int .i64 i ∧ s6 = .int .u64 bo ∧ s5 = pv ∧ Hid (o.length = i) ∧ Hid (Lim o) ∧ bo ≤ 1 ∧ Hid (val o + val (b.take i) = val (a.take i) + 4294967296 ^ i * bo) ∧ Hp [] w wr [.obj 0 S (RowAt 99 1 pv i (limbs o) S)]) (fun _ _ v _ => a.length - (intOf v).toNat)
 case atStart => exact ⟨0, [], 0, _, _, Nat.zero_le _, rfl, rfl, rfl, hid rfl, hid Lim.nil, Nat.zero_le _, hid rfl, H⟩
 case round =>
  clear H
  obtain ⟨i, o, bo, pv, S, hi, rfl, rfl, hpv, Hol, Hlo, hbo, Hv, H⟩ := hrel
  obtain ⟨p5, c5, he, _⟩ := (H.rowo 0).form
  subst he
  subst hpv
  by_cases hin : i < a.length
  ·obtain ⟨x, hx⟩ : ∃ x, a[i]? = some x := ⟨_, List.getElem?_eq_getElem hin⟩
   have hxv := limbs_at hx
   have hxB := Hh.out.lim.at hx
   have Hx := hid hx
   clear hx
   obtain ⟨b0, off, rfl, hb0, hcell⟩ := Hh.out.rd.rng (limbs_ne (i := i) hin)
   have H1 := H.pushRng (b := b0) (off := off) hb0 (by simp) hcell
   clear H hcell
   have H := H1
   clear H1
   by_cases him : i < b.length
   ·obtain ⟨y, hy⟩ : ∃ y, b[i]? = some y := ⟨_, List.getElem?_eq_getElem him⟩
    have hyv := limbs_at hy
    have hyB := Hk.out.lim.at hy
    have Hy := hid hy
    clear hy
    obtain ⟨b1, off1, rfl, hb1, hcell1⟩ := Hk.out.rd.rng (limbs_ne (i := i) him)
    have H1 := H.pushRng (b := b1) (off := off1) hb1 (by simp) hcell1
    clear H hcell1
    have H := H1
    clear H1
    obtain ⟨dd, b', f1, _, f3, f4, f5, f6⟩ := sub_word (Z := IntKind.u64.wrap ((x : Int) - (bo : Int)) - (y : Int)) (x := x) (y := y) (bo := bo) (by rw [IntKind.wrap_u64]; omega) hxB hyB hbo
    have F1 := hid f1
    have F3 := hid f3
    have F6 := hid f6
    clear f1 f3 f6
    go_wp2_with (first | refine x_q H ?_ | refine x_e (ev_top rfl rfl) ?_ | (refine is_blt (b := .append) rfl ?_; go_loud (refine wl_rw rfl (fun K hK => c_aprS H rfl rfl rfl 0 (H.rd (b := g) (off := 0) (vs := [.int .u32 (IntKind.u64.wrap (IntKind.u64.wrap ((x : Int) - (bo : Int)) - (y : Int)) % 4294967296)]) List.prefix_rfl) rfl (by intro u hu; simp only [List.mem_singleton] at hu; subst hu; rfl) (by omega) (by unfold maxLen; omega) (fun p1 c1 w1 S' hf H1 => hK _ _ ?_))); (clear hK K); (clear H; have H := H1; clear H1; (try dsimp only at H); (try clear hf)); (simp only [nrm, ↓reduceIte, Nat.reduceAdd])) | (revert H; refine x_g ?_; intro g w1 hg hf H; (try clear hf)))
    rw [F1.out, limbs_snoc] at H
    go_roundw
    case rel => exact ⟨i + 1, o ++ [dd], b', _, S', by omega, by go_num, by rw [F3.out], rfl, hid (by rw [List.length_append, Hol.out]; rfl), hid (Hlo.out.app (Lim.cons f5 Lim.nil)), f4, hid (by rw [val_snoc, Hol.out, val_take_succ Hx.out, val_take_succ Hy.out]; exact minus_round Hv.out F6.out), H.sub (by repeat first | exact List.Sublist.refl _ | exact List.nil_sublist _ | apply List.Sublist.cons_cons | apply List.Sublist.cons)⟩
    case measure => (simp [intOf]; try omega)
   ·obtain ⟨dd, b', f1, _, f3, f4, f5, f6⟩ := sub_word (Z := (x : Int) - (bo : Int)) (x := x) (y := 0) (bo := bo) (by omega) hxB (by decide) hbo
    have F1 := hid f1
    have F3 := hid f3
    have F6 := hid f6
    clear f1 f3 f6
    go_wp2_with (first | refine x_q H ?_ | refine x_e (ev_top rfl rfl) ?_ | (refine is_blt (b := .append) rfl ?_; go_loud (refine wl_rw rfl (fun K hK => c_aprS H rfl rfl rfl 0 (H.rd (b := g) (off := 0) (vs := [.int .u32 (IntKind.u64.wrap ((x : Int) - (bo : Int)) % 4294967296)]) List.prefix_rfl) rfl (by intro u hu; simp only [List.mem_singleton] at hu; subst hu; rfl) (by omega) (by unfold maxLen; omega) (fun p1 c1 w1 S' hf H1 => hK _ _ ?_))); (clear hK K); (clear H; have H := H1; clear H1; (try dsimp only at H); (try clear hf)); (simp only [nrm, ↓reduceIte, Nat.reduceAdd])) | (revert H; refine x_g ?_; intro g w1 hg hf H; (try clear hf)))
    rw [F1.out, limbs_snoc] at H
    go_roundw
    case rel => exact ⟨i + 1, o ++ [dd], b', _, S', by omega, by go_num, by rw [F3.out], rfl, hid (by rw [List.length_append, Hol.out]; rfl), hid (Hlo.out.app (Lim.cons f5 Lim.nil)), f4, hid (by
     rw [val_snoc, Hol.out, val_take_succ Hx.out, take_over (by omega)]
     have := minus_round Hv.out F6.out
     simpa using this), H.sub (by repeat first | exact List.Sublist.refl _ | exact List.nil_sublist _ | apply List.Sublist.cons_cons | apply List.Sublist.cons)⟩
    case measure => (simp [intOf]; try omega)
  ·have e : i = a.length := by omega
   have hV : val o = val a - val b := by
    have h1 := Hv.out
    rw [e, List.take_of_length_le (Nat.le_refl _), List.take_of_length_le hmn] at h1
    have h2 := val_lt Hlo.out
    rw [Hol.out, e] at h2
    exact (minus_end h2 Hle.out h1).2
   have HV := hid hV
   have Hi := hid e
   clear e hV
   go_wp2_with (refine x_q H ?_)
   go_ret
   obtain ⟨p6, c6, e6, e7, hL⟩ := LR.of_row (H.rowo 0) Hlo.out
   injection e6 with e61 e62 e63
   subst e61 e63
   exact ⟨o, _, _, by rw [e7]; rfl, H.fr, hL, HV.out, by rw [e7, Hi.out]⟩
theorem addMag_any {w : World} {p q : Option Addr} {n m c d : Nat} (a b : List Nat) (hn : a.length = n) (hm : b.length = m) (hn0 : n ≤ 1000000) (hm0 : m ≤ 1000000) (h : LR w p c a) (k : LR w q d b) :
  Calls Tryz.prog 137 #[.slice p n c, .slice q m d] w fun e w' => ∃ (o : List Nat) (p' : Option Addr) (c' : Nat), e = .returned (.slice p' o.length c') ∧ Fr [] w w' ∧ LR w' p' c' o ∧ val o = val a + val b ∧ o.length ≤ n + m + 1 := by
 subst hn hm
 have Hh := hid h
 have Hk := hid k
 clear h k
 have H := (Hp.start [] w).newRow 0 (e := 99) (sz := 1)
 go_enter Tryz.func137, Tryz.ntmps137
 go_wp2_with fail
 go_loopw [5, 6, 7] (fun s5 s6 s7 wr => ∃ (i : Nat) (o : List Nat) (cy : Nat) (pv : Value) (S : List Nat), (i ≤ a.length ∨ i ≤ b.length) ∧ s7 = .int .i64 i ∧ s6 = .int .u64 cy ∧ s5 = pv ∧ Hid (o.length = i) ∧ Hid (Lim o) ∧ cy ≤ 1 ∧ Hid (val o + 4294967296 ^ i * cy = val (a.take i) + val (b.take i)) ∧ Hp [] w wr [.obj 0 S (RowAt 99 1 pv i (limbs o) S)]) (fun _ _ v _ => a.length + b.length - (intOf v).toNat)
 case atStart => exact ⟨0, [], 0, _, _, .inl (Nat.zero_le _), rfl, rfl, rfl, hid rfl, hid Lim.nil, Nat.zero_le _, hid rfl, H⟩
 case round =>
  clear H
  obtain ⟨i, o, cy, pv, S, hi, rfl, rfl, hpv, Hol, Hlo, hcy, Hv, H⟩ := hrel
  obtain ⟨p5, c5, he, _⟩ := (H.rowo 0).form
  subst he
  subst hpv
  have hi2 : i ≤ 1000000 := by omega
  by_cases hia : i < a.length
  ·obtain ⟨x, hx⟩ : ∃ x, a[i]? = some x := ⟨_, List.getElem?_eq_getElem hia⟩
   have hxv := limbs_at hx
   have hxB := Hh.out.lim.at hx
   have Hx := hid hx
   clear hx
   obtain ⟨b0, off, rfl, hb0, hcell⟩ := Hh.out.rd.rng (limbs_ne (i := i) hia)
   have H1 := H.pushRng (b := b0) (off := off) hb0 (by simp) hcell
   clear H hcell
   have H := H1
   clear H1
   by_cases hib : i < b.length
   ·obtain ⟨y, hy⟩ : ∃ y, b[i]? = some y := ⟨_, List.getElem?_eq_getElem hib⟩
    have hyv := limbs_at hy
    have hyB := Hk.out.lim.at hy
    have Hy := hid hy
    clear hy
    obtain ⟨b1, off1, rfl, hb1, hcell1⟩ := Hk.out.rd.rng (limbs_ne (i := i) hib)
    have H1 := H.pushRng (b := b1) (off := off1) hb1 (by simp) hcell1
    clear H hcell1
    have H := H1
    clear H1
    go_wp2_with (first | refine x_q H ?_ | refine x_e (ev_high rfl rfl) ?_ | (refine is_blt (b := .append) rfl ?_; go_loud (refine wl_rw rfl (fun K hK => c_aprS H rfl rfl rfl 0 (H.rd (b := g) (off := 0) (vs := [.int .u32 (((cy : Int) + (x : Int) + (y : Int)) % 4294967296)]) List.prefix_rfl) rfl (by intro u hu; simp only [List.mem_singleton] at hu; subst hu; rfl) (by omega) (by unfold maxLen; omega) (fun p1 c1 w1 S' hf H1 => hK _ _ ?_))); (clear hK K); (clear H; have H := H1; clear H1; (try dsimp only at H); (try clear hf)); (simp only [nrm, ↓reduceIte, Nat.reduceAdd])) | (revert H; refine x_g ?_; intro g w1 hg hf H; (try clear hf)))
    have e1 : ((cy : Int) + (x : Int) + (y : Int)) % 4294967296 = (((x + y + cy) % 4294967296 : Nat) : Int) := by omega
    rw [e1, limbs_snoc] at H
    go_roundw
    case rel => exact ⟨i + 1, o ++ [(x + y + cy) % 4294967296], (x + y + cy) / 4294967296, _, S', by omega, by go_num, by rw [show ((cy : Int) + (x : Int) + (y : Int)) / 4294967296 = (((x + y + cy) / 4294967296 : Nat) : Int) by omega], rfl, hid (by rw [List.length_append, Hol.out]; rfl), hid (Hlo.out.app (Lim.cons (Nat.mod_lt _ (by decide)) Lim.nil)), by omega, hid (by rw [plus_round Hol.out Hv.out rfl, val_take_succ Hx.out, val_take_succ Hy.out]; omega), H.sub (by repeat first | exact List.Sublist.refl _ | exact List.nil_sublist _ | apply List.Sublist.cons_cons | apply List.Sublist.cons)⟩
    case measure => (simp [intOf]; try omega)
   ·go_wp2_with (first | refine x_q H ?_ | refine x_e (ev_high rfl rfl) ?_ | (refine is_blt (b := .append) rfl ?_; go_loud (refine wl_rw rfl (fun K hK => c_aprS H rfl rfl rfl 0 (H.rd (b := g) (off := 0) (vs := [.int .u32 (((cy : Int) + (x : Int)) % 4294967296)]) List.prefix_rfl) rfl (by intro u hu; simp only [List.mem_singleton] at hu; subst hu; rfl) (by omega) (by unfold maxLen; omega) (fun p1 c1 w1 S' hf H1 => hK _ _ ?_))); (clear hK K); (clear H; have H := H1; clear H1; (try dsimp only at H); (try clear hf)); (simp only [nrm, ↓reduceIte, Nat.reduceAdd])) | (revert H; refine x_g ?_; intro g w1 hg hf H; (try clear hf)))
    have e1 : ((cy : Int) + (x : Int)) % 4294967296 = (((x + 0 + cy) % 4294967296 : Nat) : Int) := by omega
    rw [e1, limbs_snoc] at H
    go_roundw
    case rel => exact ⟨i + 1, o ++ [(x + 0 + cy) % 4294967296], (x + 0 + cy) / 4294967296, _, S', by omega, by go_num, by rw [show ((cy : Int) + (x : Int)) / 4294967296 = (((x + 0 + cy) / 4294967296 : Nat) : Int) by omega], rfl, hid (by rw [List.length_append, Hol.out]; rfl), hid (Hlo.out.app (Lim.cons (Nat.mod_lt _ (by decide)) Lim.nil)), by omega, hid (by rw [plus_round Hol.out Hv.out rfl, val_take_succ Hx.out, take_over (by omega)]; omega), H.sub (by repeat first | exact List.Sublist.refl _ | exact List.nil_sublist _ | apply List.Sublist.cons_cons | apply List.Sublist.cons)⟩
    case measure => (simp [intOf]; try omega)
  ·by_cases hib : i < b.length
   ·obtain ⟨y, hy⟩ : ∃ y, b[i]? = some y := ⟨_, List.getElem?_eq_getElem hib⟩
    have hyv := limbs_at hy
    have hyB := Hk.out.lim.at hy
    have Hy := hid hy
    clear hy
    obtain ⟨b1, off1, rfl, hb1, hcell1⟩ := Hk.out.rd.rng (limbs_ne (i := i) hib)
    have H1 := H.pushRng (b := b1) (off := off1) hb1 (by simp) hcell1
    clear H hcell1
    have H := H1
    clear H1
    go_wp2_with (first | refine x_q H ?_ | refine x_e (ev_high rfl rfl) ?_ | (refine is_blt (b := .append) rfl ?_; go_loud (refine wl_rw rfl (fun K hK => c_aprS H rfl rfl rfl 0 (H.rd (b := g) (off := 0) (vs := [.int .u32 (((cy : Int) + (y : Int)) % 4294967296)]) List.prefix_rfl) rfl (by intro u hu; simp only [List.mem_singleton] at hu; subst hu; rfl) (by omega) (by unfold maxLen; omega) (fun p1 c1 w1 S' hf H1 => hK _ _ ?_))); (clear hK K); (clear H; have H := H1; clear H1; (try dsimp only at H); (try clear hf)); (simp only [nrm, ↓reduceIte, Nat.reduceAdd])) | (revert H; refine x_g ?_; intro g w1 hg hf H; (try clear hf)))
    have e1 : ((cy : Int) + (y : Int)) % 4294967296 = (((0 + y + cy) % 4294967296 : Nat) : Int) := by omega
    rw [e1, limbs_snoc] at H
    go_roundw
    case rel => exact ⟨i + 1, o ++ [(0 + y + cy) % 4294967296], (0 + y + cy) / 4294967296, _, S', by omega, by go_num, by rw [show ((cy : Int) + (y : Int)) / 4294967296 = (((0 + y + cy) / 4294967296 : Nat) : Int) by omega], rfl, hid (by rw [List.length_append, Hol.out]; rfl), hid (Hlo.out.app (Lim.cons (Nat.mod_lt _ (by decide)) Lim.nil)), by omega, hid (by rw [plus_round Hol.out Hv.out rfl, take_over (l := a) (by omega), val_take_succ Hy.out]; omega), H.sub (by repeat first | exact List.Sublist.refl _ | exact List.nil_sublist _ | apply List.Sublist.cons_cons | apply List.Sublist.cons)⟩
    case measure => (simp [intOf]; try omega)
   ·have HV : Hid (val (o ++ [cy]) = val a + val b) := hid (by
     have := Hv.out
     rw [List.take_of_length_le (by omega), List.take_of_length_le (by omega)] at this
     rw [val_snoc, Hol.out, this])
    have Hl1 : Hid (Lim (o ++ [cy])) := hid (Hlo.out.app (Lim.cons (by omega) Lim.nil))
    go_wp2_with (first | refine x_q H ?_ | (refine is_blt (b := .append) rfl ?_; go_loud (refine wl_rw rfl (fun K hK => c_aprS H rfl rfl rfl 0 (H.rd (b := g) (off := 0) (vs := [.int .u32 ((cy : Int))]) List.prefix_rfl) rfl (by intro u hu; simp only [List.mem_singleton] at hu; subst hu; rfl) (by omega) (by unfold maxLen; omega) (fun p1 c1 w1 S' hf H1 => hK _ _ ?_))); (clear hK K); (clear H; have H := H1; clear H1; (try dsimp only at H); (try clear hf)); (simp only [nrm, ↓reduceIte, Nat.reduceAdd])) | (revert H; refine x_g ?_; intro g w1 hg hf H; (try clear hf)))
    all_goals
     rw [limbs_snoc] at H
     obtain ⟨p6, c6, e6, e7, hL⟩ := LR.of_row (H.rowo 0) Hl1.out
     injection e6 with e61 e62 e63
     subst e61 e63
     go_ret
     exact ⟨o ++ [cy], _, _, by rw [e7]; rfl, H.fr, hL, HV.out, by rw [e7]; omega⟩
end Go.Proofs.YthbeeeclgbpopaaGreatDoor
namespace Go.Proofs.YthbeeeclgbpopaaGreatDoor
open Go.RowKit
set_option linter.unusedSimpArgs false
set_option linter.unusedVariables false
set_option maxHeartbeats 4000000
set_option maxRecDepth 100000
theorem LR.empty {w w' : World} {p : Option Addr} {c : Nat} (h : LR w p c []) : LR w' p c [] := ⟨h.nil, h.cap, h.max, h.lim, .inl ⟨rfl, rfl, p, c, rfl⟩⟩
theorem LR.keep {w w' : World} {p : Option Addr} {c : Nat} {l : List Nat} (h : LR w p c l) {g : Nat} {cs : List Value} {t : TypeId} (hg : w.heap[g]? = some (.cells cs.toArray t (0, 0))) (hc : ∀ u ∈ cs, ∀ x, u ≠ .int .u32 x) (k : Fr [g] w w') : LR w' p c l := by
 cases l with
 | nil => exact h.empty
 | cons x l =>
  obtain ⟨b, off, rfl, hb, hcell⟩ := h.rd.rng (by simp [limbs])
  have hbg : b ≠ g := fun e => by
   subst e
   have h0 := hcell 0 (.int .u32 (x : Int)) (by simp [limbs])
   rw [cell_of_row w b _ _ _ _ hg] at h0
   have h1 : cs[off + 0]? = some (.int .u32 (x : Int)) := by simpa using h0
   exact hc _ (List.mem_of_getElem? h1) _ rfl
  refine ⟨h.nil, h.cap, h.max, h.lim, h.rd.fr k (fun b' hb' => ?_)⟩
  have e : b' = b := by
   simp [Value.ownBlock] at hb'
   omega
  subst e
  simpa using hbg
section
variable {P : Program} {Q : Exit → Act → World → Prop} {a : Act} {w w0 : World} {o : Oper} {K : Act → World → Prop} {T : List Nat} {l : List Ent}
theorem c_st2 (H : Hp T w0 w l) {t : TypeId} {x y : Operand} (ho : o.op = .store t x y) {b : Nat} {u v : Value} (hx : a.eval x = .pointer (some ⟨b, 0, none⟩)) (hy : a.eval y = .agg #[u, v]) [hs : Ro P t 2] {r s : Value} {t' : TypeId} {f : Nat → List Value → List Ent} [hm : In b [r, s] t' l f] (h1 : u.oneCell' = true := by rfl) (h2 : v.oneCell' = true := by rfl) (h3 : ∀ x, r ≠ .int .u32 x := by intro x h; cases h) (h4 : ∀ x, s ≠ .int .u32 x := by intro x h; cases h)
  (h : ∀ w', Fr [b] w w' → Hp T w0 w' (f b [u, v]) → (∀ p c l, LR w p c l → LR w' p c l) → K (a.put o.dst undef) w') : o.wp P a w K Q :=
 c_stn H ho hx (vs := [u, v]) hy rfl (by intro z hz; simp only [List.mem_cons, List.not_mem_nil, or_false] at hz; rcases hz with rfl | rfl <;> assumption) (by simp) (fun w' hf H1 => h w' hf H1 (fun p c l hL => hL.keep (H.at b) (by intro z hz x; simp only [List.mem_cons, List.not_mem_nil, or_false] at hz; rcases hz with rfl | rfl; exact h3 x; exact h4 x) hf))
theorem x_s2 {P : Program} {ops : Array Oper} {Q : Exit → Act → World → Prop} {w w0 : World} {rest : List Oper} {o : Oper} {T : List Nat} {l : List Ent} {L : List Value} {ds : List Deferred} {b : Nat} {l' : List Ent} {L' : List Value}
  (h : ∀ w', Fr [b] w w' → Hp T w0 w' l' → (∀ p c l, LR w p c l → LR w' p c l) → wpList P ops Q rest ⟨L'.toArray, ds⟩ w')
  (hw : Region.wanted o (yielded ops L.toArray) = true := by rfl)
  (he : Hp T w0 w l → ∀ K : Act → World → Prop, (∀ w', Fr [b] w w' → Hp T w0 w' l' → (∀ p c l, LR w p c l → LR w' p c l) → K (Act.put ⟨L.toArray, ds⟩ o.dst undef) w') → o.wp P ⟨L.toArray, ds⟩ w K Q := by intro H K hK; exact c_st2 H rfl rfl rfl (h := hK))
  (hs : putL L o.dst undef = L' := by ((try simp only [nrm, putL_s, putL_n, ↓reduceIte, Nat.reduceAdd]); (try exact rfl))) (H : Hp T w0 w l) : wpList P ops Q (o :: rest) ⟨L.toArray, ds⟩ w :=
 wl_rw hw fun K hK => he H K fun w' h2 h3 h4 => hK _ _ (by rw [put_eq, hs]; exact h w' h2 h3 h4)
theorem p_s2 {P : Program} {lo : List Oper} {S : World → Prop} {f i : Nat} {k : Plan} {Q : Exit → Act → World → Prop} {w w0 : World} {o : Oper} {T : List Nat} {l : List Ent} {L : List Value} {ds : List Deferred} {b : Nat} {l' : List Ent} {L' : List Value}
  (h : ∀ w', Fr [b] w w' → Hp T w0 w' l' → (∀ p c l, LR w p c l → LR w' p c l) → k.wp P lo.toArray Q S f ⟨L'.toArray, ds⟩ w') (hi : lo[i]? = some o := by rfl)
  (hw : Region.wanted o (yielded lo.toArray L.toArray) = true := by rfl)
  (he : Hp T w0 w l → ∀ K : Act → World → Prop, (∀ w', Fr [b] w w' → Hp T w0 w' l' → (∀ p c l, LR w p c l → LR w' p c l) → K (Act.put ⟨L.toArray, ds⟩ o.dst undef) w') → o.wp P ⟨L.toArray, ds⟩ w K Q := by intro H K hK; exact c_st2 H rfl rfl rfl (h := hK))
  (hs : putL L o.dst undef = L' := by ((try simp only [nrm, putL_s, putL_n, ↓reduceIte, Nat.reduceAdd]); (try exact rfl)))
  (hS : i ≠ f → ∀ w', Hp T w0 w' l' → S w' := by intro hne w' H1; first | exact absurd rfl hne | exact trivial | exact H1.sub (by repeat first | exact List.Sublist.refl _ | exact List.nil_sublist _ | apply List.Sublist.cons_cons | apply List.Sublist.cons))
  (H : Hp T w0 w l) : Plan.wp P lo.toArray Q S f (.ld i k) ⟨L.toArray, ds⟩ w :=
 pl_rw hi hw fun K hK => he H K fun w' h2 h3 h4 => hK _ _ (fun hne => hS hne w' h3) (by rw [put_eq, hs]; exact h w' h2 h3 h4)
end
theorem zv_neg_iff (neg : Bool) (l : List Nat) : zv neg l < 0 ↔ neg = true ∧ val l ≠ 0 := by
 unfold zv; cases neg <;> simp <;> omega
theorem LR.zero (w : World) : LR w none 0 [] := ⟨fun _ => rfl, Nat.zero_le _, by unfold maxLen; omega, Lim.nil, .inl ⟨rfl, rfl, _, _, rfl⟩⟩
theorem big_any {w : World} {p : Option Addr} {n c : Nat} (neg : Bool) (l : List Nat) (hl : l.length = n) (h : LR w p c l) :
  Calls Tryz.prog 84 #[.bool neg, .slice p n c] w fun e w' => Big e w w' (zv neg l) := by
 have Hh := hid h
 obtain ⟨hlc, hc⟩ := h.clen
 have H := Hp.start [] w
 have Hl := hid hl
 clear h hl
 go_enter Tryz.func84, Tryz.ntmps84
 go_wp2_with (revert H; refine x_g ?_; intro g w1 hg hf H; (try clear hf))
 refine Calls.mono (trim_any l Hl.out (Hh.out.fr H.fr)) ?_
 rintro e w1 ⟨rfl, hF⟩
 have H1 := H.step hF (by simp)
 clear H hF
 have H := H1
 clear H1
 have hml : (digs (val l)).length ≤ l.length := digs_len_le Hh.out.lim
 by_cases h0 : val l = 0
 ·have e0 : (digs (val l)).length = 0 := by rw [h0, digs_zero]; rfl
  have Hz : Hid (zv neg l = 0) := hid (by unfold zv; rw [h0]; split <;> rfl)
  rw [e0]
  clear e0 h0 hml
  go_wp2_with (first | refine x_q H ?_ | (revert H; refine x_s2 ?_; intro w1 hf H hk; have hk2 := hid hk; clear hk; (try clear hf)))
  refine c_post H rfl rfl rfl ?_
  refine ⟨none, 0, ?_, H.fr, ?_⟩
  ·rw [Hz.out, show (0 : Int).natAbs = 0 from rfl, digs_zero]; rfl
  ·rw [Hz.out, show (0 : Int).natAbs = 0 from rfl, digs_zero]; exact LR.zero _
 ·have Hn0 := hid h0
  have hp : 0 < (digs (val l)).length := by
   rcases Nat.eq_zero_or_pos (digs (val l)).length with e | e
   ·exact absurd (digs_nil.1 (List.eq_nil_of_length_eq_zero e)) h0
   ·exact e
  obtain ⟨m, hm⟩ : ∃ m, (digs (val l)).length = m := ⟨_, rfl⟩
  have Hm := hid hm
  rw [hm] at hp hml ⊢
  clear hm h0
  go_wp2_with (first | refine x_q H ?_ | (revert H; refine x_s2 ?_; intro w1 hf H hk; have hk2 := hid hk; clear hk; (try clear hf)))
  refine c_post H rfl rfl rfl ?_
  refine ⟨p, c, ?_, H.fr, ?_⟩
  ·rw [zv_abs, Hm.out]
   have : decide (zv neg l < 0) = neg := by
    rw [Bool.eq_iff_iff, decide_eq_true_eq, zv_neg_iff]
    exact ⟨fun h => h.1, fun h => ⟨h, Hn0.out⟩⟩
   rw [this]
  ·rw [zv_abs]
   exact Hh.out.trim.fr H.fr
end Go.Proofs.YthbeeeclgbpopaaGreatDoor
namespace Go.Proofs.YthbeeeclgbpopaaGreatDoor
open Go.RowKit
set_option linter.unusedSimpArgs false
set_option linter.unusedVariables false
set_option maxHeartbeats 4000000
set_option maxRecDepth 100000
theorem clone_any {w : World} {p : Option Addr} {n c : Nat} (l : List Nat) (hl : l.length = n) (hn : n ≤ 1000000) (h : LR w p c l) :
  Calls Tryz.prog 105 #[.slice p n c] w fun e w' => ∃ p' c', e = .returned (.slice p' n c') ∧ Fr [] w w' ∧ LR w' p' c' l := by
 subst hl
 have Hh := hid h
 have H := (Hp.start [] w).newRow 0 (e := 99) (sz := 1)
 cases p with
 | none =>
  have h0 : l = [] := by
   rcases h.rd with ⟨h, _⟩ | ⟨ad, c', h, _⟩
   ·exact List.eq_nil_of_length_eq_zero h
   ·cases h
  subst h0
  obtain rfl := h.nil rfl
  clear h Hh
  go_enter Tryz.func105, Tryz.ntmps105
  go_wp2_with (refine x_q H ?_)
  go_ret
  exact ⟨none, 0, rfl, H.fr, LR.zero _⟩
 | some ad =>
  clear h
  by_cases h0 : l.length < 1
  ·have h1 : l = [] := List.eq_nil_of_length_eq_zero (by omega)
   subst h1
   go_enter Tryz.func105, Tryz.ntmps105
   go_wp2_with (first | refine x_q H ?_ | (refine is_buildSlice rfl ?_; refine wl_rw rfl (fun K hK => c_sN H rfl (by repeat first | exact .nil _ | apply Parts.tmp (by rfl) (by rfl) | apply Parts.con (by rfl)) rfl (by intro c hc; simp only [List.mem_cons, List.not_mem_nil, or_false] at hc; (try (rcases hc with rfl | rfl | rfl | rfl | rfl | rfl | rfl | rfl <;> rfl))) (by decide) (by decide) (fun g w1 hg hf H1 => hK _ _ ?_)); (clear hK K); (clear H; have H := H1; clear H1; (try dsimp only at H); (try clear hf)); (simp only [nrm, ↓reduceIte, Nat.reduceAdd])) | (refine is_blt (b := .append) rfl ?_; refine wl_rw rfl (fun K hK => c_apz H rfl rfl rfl (by omega) (fun w1 hf H1 => hK _ _ ?_)); (clear hK K); (clear H; have H := H1; clear H1; (try dsimp only at H); (try clear hf)); (simp only [nrm, ↓reduceIte, Nat.reduceAdd])))
   go_ret
   exact ⟨_, _, rfl, H.fr, ⟨fun h => (by cases h), Nat.zero_le _, by unfold maxLen; omega, Lim.nil, .inl ⟨rfl, rfl, _, _, rfl⟩⟩⟩
  ·go_enter Tryz.func105, Tryz.ntmps105
   go_wp2_with (first | refine x_q H ?_ | (refine is_buildSlice rfl ?_; refine wl_rw rfl (fun K hK => c_sN H rfl (by repeat first | exact .nil _ | apply Parts.tmp (by rfl) (by rfl) | apply Parts.con (by rfl)) rfl (by intro c hc; simp only [List.mem_cons, List.not_mem_nil, or_false] at hc; (try (rcases hc with rfl | rfl | rfl | rfl | rfl | rfl | rfl | rfl <;> rfl))) (by decide) (by decide) (fun g w1 hg hf H1 => hK _ _ ?_)); (clear hK K); (clear H; have H := H1; clear H1; (try dsimp only at H); (try clear hf)); (simp only [nrm, ↓reduceIte, Nat.reduceAdd])) | (refine is_blt (b := .append) rfl ?_; go_loud (refine wl_rw rfl (fun K hK => c_apo H rfl rfl rfl List.prefix_rfl rfl rfl (Nat.zero_le _) (Hh.out.rd.fr H.fr (by simp)) (by rw [limbs_len, Nat.mul_one]) (limbs_one _) (by omega) (by omega) (by first | omega | (unfold maxLen; omega)) (fun g w1 cap pad hg hc hcm hpl hf H1 => hK _ _ ?_))); (clear hK K); (clear H; have H := H1; clear H1; (try dsimp only at H); (try clear hf)); (simp only [nrm, ↓reduceIte, Nat.reduceAdd])))
   go_ret
   exact ⟨_, _, by simp; rfl, H.fr, LR.of_blk (by simpa using H.at g) Hh.out.lim (by omega) hcm⟩
theorem make1_any {w : World} {p : Option Addr} {n c : Nat} (neg : Bool) (l : List Nat) (hl : l.length = n) (hn : n ≤ 1000000) (h : LR w p c l) :
  Calls Tryz.prog 131 #[.bool neg, .slice p n c] w fun e w' => Big e w w' (zv neg l) := by
 have Hh := hid h
 obtain ⟨hlc, hc⟩ := h.clen
 have H := Hp.start [] w
 have Hl := hid hl
 clear h hl
 go_enter Tryz.func131, Tryz.ntmps131
 go_wp2_with (revert H; refine x_g ?_; intro g w1 hg hf H; (try clear hf))
 refine Calls.mono (rtrim_any l Hl.out hn (Hh.out.fr H.fr)) ?_
 rintro e w1 ⟨p', c', rfl, hF, hL⟩
 have HL := hid hL
 have H1 := H.step hF (by simp)
 clear H hF hL
 have H := H1
 clear H1
 obtain ⟨m, hm⟩ : ∃ m, (digs (val l)).length = m := ⟨_, rfl⟩
 have hml : m ≤ l.length := by rw [← hm]; exact digs_len_le Hh.out.lim
 have Hm := hid hm
 rw [hm]
 clear hm
 have HB : Hid (decide (zv neg l < 0) = (neg && decide (0 < m))) := hid (by
  rw [Bool.eq_iff_iff, decide_eq_true_eq, zv_neg_iff, Bool.and_eq_true, decide_eq_true_eq]
  have : val l ≠ 0 ↔ 0 < m := by
   rw [← Hm.out]
   constructor
   ·intro h
    rcases Nat.eq_zero_or_pos (digs (val l)).length with e | e
    ·exact absurd (digs_nil.1 (List.eq_nil_of_length_eq_zero e)) h
    ·exact e
   ·intro h e
    rw [e, digs_zero] at h; simp at h
  rw [this])
 have hlm : m ≤ 1000000 := by have := Hl.out; omega
 cases neg
 ·go_wp2_with (first | refine x_q H ?_ | (revert H; refine x_s2 ?_; intro w1 hf H hk; have hk2 := hid hk; clear hk; (try clear hf)))
  refine c_post H rfl rfl rfl ?_
  exact ⟨p', c', by rw [zv_abs, HB.out, Hm.out]; rfl, H.fr, by rw [zv_abs]; exact hk2.out _ _ _ HL.out⟩
 ·by_cases h0 : 0 < m
  ·have HB2 : Hid (decide (zv true l < 0) = true) := hid (by rw [HB.out, decide_eq_true h0]; rfl)
   go_wp2_with (first | refine x_q H ?_ | (revert H; refine x_s2 ?_; intro w1 hf H hk; have hk2 := hid hk; clear hk; (try clear hf)))
   refine c_post H rfl rfl rfl ?_
   exact ⟨p', c', by rw [zv_abs, HB2.out, Hm.out], H.fr, by rw [zv_abs]; exact hk2.out _ _ _ HL.out⟩
  ·have HB2 : Hid (decide (zv true l < 0) = false) := hid (by rw [HB.out, decide_eq_false h0]; rfl)
   have h0' : m ≤ 0 := by omega
   go_wp2_with (first | refine x_q H ?_ | (revert H; refine x_s2 ?_; intro w1 hf H hk; have hk2 := hid hk; clear hk; (try clear hf)))
   refine c_post H rfl rfl rfl ?_
   exact ⟨p', c', by rw [zv_abs, HB2.out, Hm.out], H.fr, by rw [zv_abs]; exact hk2.out _ _ _ HL.out⟩
theorem norm_any {w : World} {p : Option Addr} {n c : Nat} (neg : Bool) (l : List Nat) (hl : l.length = n) (hn : n ≤ 1000000) (h : LR w p c l) :
  Calls Tryz.prog 156 #[.agg #[.bool neg, .slice p n c]] w fun e w' => Big e w w' (zv neg l) := by
 have Hh := hid h
 have Hl := hid hl
 have H := Hp.start [] w
 clear h hl
 go_enter Tryz.func156, Tryz.ntmps156
 go_wp2_with (revert H; refine x_g ?_; intro g w1 hg hf H; (try clear hf))
 (revert H; refine w_p 6 (.st 0 (.st 1 (.st 2 (.st 3 (.ld 4 (.ld 5 (.ld 6 .done))))))) ?_; intro w1 H)
 iterate 4 refine p_q ?_
 ((refine pl_rw rfl rfl (fun K hK => rw_call rfl Tryz.func105 (by kernel_rfl) rfl (clone_any l Hl.out hn (Hh.out.fr H.fr)) (fun e w1 hpost => ?_))); obtain ⟨p2, c2, rfl, hF, hL⟩ := hpost; refine ⟨_, rfl, ?_⟩; have HL2 := hid hL; clear hL; have H1 := H.step hF (by simp); refine hK _ _ (fun hne => by first | exact absurd rfl hne | exact H1.sub (by repeat first | exact List.Sublist.refl _ | exact List.nil_sublist _ | apply List.Sublist.cons_cons | apply List.Sublist.cons)) ?_; clear hK K; (clear H; have H := H1; clear H1); (simp only [nrm, ↓reduceIte, Nat.reduceAdd]))
 ((refine pl_rw rfl rfl (fun K hK => rw_call rfl Tryz.func84 (by kernel_rfl) rfl (big_any neg l Hl.out (HL2.out)) (fun e w1 hpost => ?_))); obtain ⟨p3, c3, rfl, hF, hL⟩ := hpost; refine ⟨_, rfl, ?_⟩; have HB2 := hid hL; clear hL; have H1 := H.step hF (by simp); refine hK _ _ (fun hne => by first | exact absurd rfl hne | exact H1.sub (by repeat first | exact List.Sublist.refl _ | exact List.nil_sublist _ | apply List.Sublist.cons_cons | apply List.Sublist.cons)) ?_; clear hK K; (clear H; have H := H1; clear H1); (simp only [nrm, ↓reduceIte, Nat.reduceAdd]))
 (revert H; refine p_s2 ?_; intro w1 hf H hk; have hk2 := hid hk; clear hk; (try clear hf))
 (refine pl_done ?_)
 all_goals
  go_wp2_with fail
  refine c_post H rfl rfl rfl ?_
  exact ⟨p3, c3, rfl, H.fr, hk2.out _ _ _ HB2.out⟩
theorem neg_any {w : World} {p : Option Addr} {n c : Nat} (neg : Bool) (l : List Nat) (hl : l.length = n) (hn : n ≤ 1000000) (h : LR w p c l) :
  Calls Tryz.prog 43 #[.agg #[.bool neg, .slice p n c]] w fun e w' => Big e w w' (zv (!neg) l) := by
 have Hh := hid h
 have Hl := hid hl
 have H := Hp.start [] w
 clear h hl
 go_enter Tryz.func43, Tryz.ntmps43
 go_wp2_with (revert H; refine x_g ?_; intro g w1 hg hf H; (try clear hf))
 (revert H; refine w_p 7 (.st 0 (.st 1 (.st 2 (.st 3 (.st 4 (.ld 5 (.ld 6 (.ld 7 .done)))))))) ?_; intro w1 H)
 iterate 5 refine p_q ?_
 ((refine pl_rw rfl rfl (fun K hK => rw_call rfl Tryz.func105 (by kernel_rfl) rfl (clone_any l Hl.out hn (Hh.out.fr H.fr)) (fun e w1 hpost => ?_))); obtain ⟨p2, c2, rfl, hF, hL⟩ := hpost; refine ⟨_, rfl, ?_⟩; have HL2 := hid hL; clear hL; have H1 := H.step hF (by simp); refine hK _ _ (fun hne => by first | exact absurd rfl hne | exact H1.sub (by repeat first | exact List.Sublist.refl _ | exact List.nil_sublist _ | apply List.Sublist.cons_cons | apply List.Sublist.cons)) ?_; clear hK K; (clear H; have H := H1; clear H1); (simp only [nrm, ↓reduceIte, Nat.reduceAdd]))
 ((refine pl_rw rfl rfl (fun K hK => rw_call rfl Tryz.func84 (by kernel_rfl) rfl (big_any (!neg) l Hl.out (HL2.out)) (fun e w1 hpost => ?_))); obtain ⟨p3, c3, rfl, hF, hL⟩ := hpost; refine ⟨_, rfl, ?_⟩; have HB2 := hid hL; clear hL; have H1 := H.step hF (by simp); refine hK _ _ (fun hne => by first | exact absurd rfl hne | exact H1.sub (by repeat first | exact List.Sublist.refl _ | exact List.nil_sublist _ | apply List.Sublist.cons_cons | apply List.Sublist.cons)) ?_; clear hK K; (clear H; have H := H1; clear H1); (simp only [nrm, ↓reduceIte, Nat.reduceAdd]))
 (revert H; refine p_s2 ?_; intro w1 hf H hk; have hk2 := hid hk; clear hk; (try clear hf))
 (refine pl_done ?_)
 all_goals
  go_wp2_with fail
  refine c_post H rfl rfl rfl ?_
  exact ⟨p3, c3, rfl, H.fr, hk2.out _ _ _ HB2.out⟩
theorem abs_any {w : World} {p : Option Addr} {n c : Nat} (neg : Bool) (l : List Nat) (hl : l.length = n) (hn : n ≤ 1000000) (h : LR w p c l) :
  Calls Tryz.prog 93 #[.agg #[.bool neg, .slice p n c]] w fun e w' => Big e w w' (zv false l) := by
 have Hh := hid h
 have Hl := hid hl
 have H := Hp.start [] w
 clear h hl
 go_enter Tryz.func93, Tryz.ntmps93
 go_wp2_with (first | refine x_q H ?_ | (revert H; refine x_g ?_; intro g w1 hg hf H; (try clear hf)))
 refine Calls.mono (clone_any l Hl.out hn (Hh.out.fr H.fr)) ?_
 rintro e w1 ⟨p2, c2, rfl, hF, hL⟩
 have HL2 := hid hL
 have H1 := H.step hF (by simp)
 clear H hF hL
 have H := H1
 clear H1
 go_wp2_with fail
 refine Calls.mono (big_any false l Hl.out HL2.out) ?_
 rintro e w1 ⟨p3, c3, rfl, hF, hL⟩
 have HB2 := hid hL
 have H1 := H.step hF (by simp)
 clear H hF hL
 have H := H1
 clear H1
 go_wp2_with (revert H; refine x_s2 ?_; intro w1 hf H hk; have hk2 := hid hk; clear hk; (try clear hf))
 refine c_post H rfl rfl rfl ?_
 exact ⟨p3, c3, rfl, H.fr, hk2.out _ _ _ HB2.out⟩
theorem rnorm_any {w : World} {p : Option Addr} {n c : Nat} (neg : Bool) (l : List Nat) (hl : l.length = n) (hn : n ≤ 1000000) (h : LR w p c l) :
  Calls Tryz.prog 129 #[.agg #[.bool neg, .slice p n c]] w fun e w' => Big e w w' (zv neg l) := by
 have Hh := hid h
 have Hl := hid hl
 have H := Hp.start [] w
 clear h hl
 go_enter Tryz.func129, Tryz.ntmps129
 go_wp2_with (first | refine x_q H ?_ | (revert H; refine x_g ?_; intro g w1 hg hf H; (try clear hf)))
 refine Calls.mono (make1_any neg l Hl.out hn (Hh.out.fr H.fr)) ?_
 rintro e w1 ⟨p3, c3, rfl, hF, hL⟩
 have HB2 := hid hL
 have H1 := H.step hF (by simp)
 clear H hF hL
 have H := H1
 clear H1
 go_wp2_with (revert H; refine x_s2 ?_; intro w1 hf H hk; have hk2 := hid hk; clear hk; (try clear hf))
 refine c_post H rfl rfl rfl ?_
 exact ⟨p3, c3, rfl, H.fr, hk2.out _ _ _ HB2.out⟩
theorem rneg_any {w : World} {p : Option Addr} {n c : Nat} (neg : Bool) (l : List Nat) (hl : l.length = n) (hn : n ≤ 1000000) (h : LR w p c l) :
  Calls Tryz.prog 173 #[.agg #[.bool neg, .slice p n c]] w fun e w' => Big e w w' (zv (!neg) l) := by
 have Hh := hid h
 have Hl := hid hl
 have H := Hp.start [] w
 clear h hl
 go_enter Tryz.func173, Tryz.ntmps173
 go_wp2_with (first | refine x_q H ?_ | (revert H; refine x_g ?_; intro g w1 hg hf H; (try clear hf)))
 refine Calls.mono (make1_any (!neg) l Hl.out hn (Hh.out.fr H.fr)) ?_
 rintro e w1 ⟨p3, c3, rfl, hF, hL⟩
 have HB2 := hid hL
 have H1 := H.step hF (by simp)
 clear H hF hL
 have H := H1
 clear H1
 go_wp2_with (revert H; refine x_s2 ?_; intro w1 hf H hk; have hk2 := hid hk; clear hk; (try clear hf))
 refine c_post H rfl rfl rfl ?_
 exact ⟨p3, c3, rfl, H.fr, hk2.out _ _ _ HB2.out⟩
theorem rabs_any {w : World} {p : Option Addr} {n c : Nat} (neg : Bool) (l : List Nat) (hl : l.length = n) (hn : n ≤ 1000000) (h : LR w p c l) :
  Calls Tryz.prog 132 #[.agg #[.bool neg, .slice p n c]] w fun e w' => Big e w w' (zv false l) := by
 have Hh := hid h
 have Hl := hid hl
 have H := Hp.start [] w
 clear h hl
 go_enter Tryz.func132, Tryz.ntmps132
 go_wp2_with (first | refine x_q H ?_ | (revert H; refine x_g ?_; intro g w1 hg hf H; (try clear hf)))
 refine Calls.mono (make1_any false l Hl.out hn (Hh.out.fr H.fr)) ?_
 rintro e w1 ⟨p3, c3, rfl, hF, hL⟩
 have HB2 := hid hL
 have H1 := H.step hF (by simp)
 clear H hF hL
 have H := H1
 clear H1
 go_wp2_with (revert H; refine x_s2 ?_; intro w1 hf H hk; have hk2 := hid hk; clear hk; (try clear hf))
 refine c_post H rfl rfl rfl ?_
 exact ⟨p3, c3, rfl, H.fr, hk2.out _ _ _ HB2.out⟩
end Go.Proofs.YthbeeeclgbpopaaGreatDoor
namespace Go.Proofs.YthbeeeclgbpopaaGreatDoor
open Go.RowKit
set_option linter.unusedSimpArgs false
set_option linter.unusedVariables false
set_option maxHeartbeats 4000000
set_option maxRecDepth 100000
theorem zv_digs (n : Bool) (A : Nat) : zv n (digs A) = if n then -(A : Int) else (A : Int) := by unfold zv; rw [val_digs]
theorem zv_plus (n : Bool) (la lb : List Nat) : zv n (digs (val la + val lb)) = zv n la + zv n lb := by
 rw [zv_digs]; unfold zv; cases n <;> simp <;> omega
theorem zv_minus1 {na nb : Bool} (h : na ≠ nb) {la lb : List Nat} (hle : val lb ≤ val la) : zv na (digs (val la - val lb)) = zv na la + zv nb lb := by
 rw [zv_digs]; unfold zv; cases na <;> cases nb <;> simp at * <;> omega
theorem zv_minus2 {na nb : Bool} (h : na ≠ nb) {la lb : List Nat} (hle : val la ≤ val lb) : zv nb (digs (val lb - val la)) = zv na la + zv nb lb := by
 rw [zv_digs]; unfold zv; cases na <;> cases nb <;> simp at * <;> omega
theorem zv_not (n : Bool) (l : List Nat) : zv (!n) l = - zv n l := by unfold zv; cases n <;> simp
theorem cmpZ_nonneg {a b : Nat} (h : b ≤ a) : 0 ≤ cmpZ a b := by
 rcases Nat.lt_or_ge b a with h1 | h1
 ·rw [cmpZ_gt (by omega)]; decide
 ·rw [show a = b by omega, cmpZ_eq]; decide
theorem cmpZ_neg {a b : Nat} (h : a < b) : cmpZ a b < 0 := by rw [cmpZ_lt (by omega)]; decide
theorem digs_mono {a b : Nat} (h : a ≤ b) : (digs a).length ≤ (digs b).length := by
 apply Classical.byContradiction
 intro hn
 have := digs_len_lt (n := b) (m := a) (by omega)
 omega
theorem add_any {w : World} {p q : Option Addr} {n m c d : Nat} (na nb : Bool) (la lb : List Nat) (hn : la.length = n) (hm : lb.length = m) (hn0 : n ≤ 1000000) (hm0 : m ≤ 1000000) (h : LR w p c la) (k : LR w q d lb) :
  Calls Tryz.prog 121 #[.agg #[.bool na, .slice p n c], .agg #[.bool nb, .slice q m d]] w fun e w' => Big e w w' (zv na la + zv nb lb) := by
 subst hn hm
 have Hh := hid h
 have Hk := hid k
 have hla := digs_len_le h.lim
 have hlb := digs_len_le k.lim
 have H := Hp.start [] w
 clear h k
 go_enter Tryz.func121, Tryz.ntmps121
 go_upto_region 1 with (first | refine x_q H ?_ | refine x_cm (fun h => ?_) (fun h => ?_) | (revert H; (first | (refine x_g ?_; intro g w1 hg hf H) | (refine x_s ?_; intro w1 hf H)); (try clear hf)))
 go_cut [2, 3, 4, 5, 6] (fun s2 s3 s4 s5 s6 wx => ∃ g1 g2 g3 : Nat, s2 = .pointer (some ⟨g1, 0, none⟩) ∧ s3 = .pointer (some ⟨g2, 0, none⟩) ∧ s4 = .pointer (some ⟨g3, 0, none⟩) ∧ s5 = .slice p (digs (val la)).length c ∧ s6 = .slice q (digs (val lb)).length d ∧ Hp [] w wx [.blk g3 [.bool false, .slice none 0 0] 50, .blk g2 [.bool nb, .slice q lb.length d] 50, .blk g1 [.bool na, .slice p la.length c] 50])
 case first =>
  (revert H; refine w_p 8 (.st 0 (.st 1 (.st 3 (.st 4 (.ld 2 (.ld 5 (.st 6 (.st 7 .done)))))))) ?_; intro w1 H)
  iterate 4 refine p_q ?_
  ((refine p_c H rfl rfl Tryz.func83 (trim_any la rfl (Hh.out.fr H.fr)) ?_; clear H; rintro e w1 ⟨rfl, hF⟩ H; refine p_r ?_))
  ((refine p_c H rfl rfl Tryz.func83 (trim_any lb rfl (Hk.out.fr H.fr)) ?_; clear H; rintro e w1 ⟨rfl, hF⟩ H; refine p_r ?_))
  iterate 2 refine p_q ?_
  (refine pl_done ?_)
  all_goals
   go_wp2_with fail
   go_meet
   case rel => exact ⟨_, _, _, rfl, rfl, rfl, rfl, rfl, H⟩
 case rest =>
  clear H
  obtain ⟨g1, g2, g3, rfl, rfl, rfl, rfl, rfl, H⟩ := hcut
  have hA := hid (Hh.out.trim)
  have hB := hid (Hk.out.trim)
  cases na <;> cases nb
  ·go_wp2_with (refine x_q H ?_)
   (revert H; refine w_p 6 (.st 0 (.st 1 (.st 2 (.st 3 (.ld 4 (.ld 5 (.ld 6 .done))))))) ?_; intro w1 H)
   iterate 4 refine p_q ?_
   ((refine p_c H rfl rfl Tryz.func81 (plus_any (digs (val la)) (digs (val lb)) rfl rfl (by omega) (by omega) (hA.out.fr H.fr) (hB.out.fr H.fr)) ?_; clear H; rintro e w1 ⟨p5, c5, rfl, hF, hL⟩ H; refine p_r ?_); have HL5 := hid hL; clear hL)
   ((refine p_c H rfl rfl Tryz.func84 (big_any false _ rfl HL5.out) ?_; clear H; rintro e w1 ⟨p6, c6, rfl, hF, hL⟩ H; refine p_r ?_); have HL6 := hid hL; clear hL)
   (revert H; refine p_s2 ?_; intro w1 hf H hk; have hk2 := hid hk; clear hk; (try clear hf))
   (refine pl_done ?_)
   all_goals
    go_wp2_with fail
    refine c_post H rfl rfl rfl ?_
    have hz : zv false (digs (val (digs (val la)) + val (digs (val lb)))) = zv false la + zv false lb := (by rw [val_digs, val_digs]; exact zv_plus _ la lb)
    rw [hz] at HL6
    refine ⟨p6, c6, ?_, H.fr, hk2.out _ _ _ HL6.out⟩
    rw [hz]
  ·rcases Nat.lt_or_ge (val la) (val lb) with hlt | hge
   ·have hc := cmpZ_neg hlt
    have hlen := digs_mono (Nat.le_of_lt hlt)
    have hlt := hid hlt
    go_wp2_with (refine x_q H ?_)
    (refine x_c H (compare_any (val la) (val lb) rfl rfl (hA.out.fr H.fr) (hB.out.fr H.fr)) ?_; clear H; rintro e w1 ⟨rfl, hF⟩ H)
    generalize cmpZ (val la) (val lb) = z at hc ⊢
    go_wp2_with (refine x_q H ?_)
    (revert H; refine w_p 6 (.st 0 (.st 1 (.st 2 (.st 3 (.ld 4 (.ld 5 (.ld 6 .done))))))) ?_; intro w1 H)
    iterate 4 refine p_q ?_
    ((refine p_c H rfl rfl Tryz.func143 (minus_any (digs (val lb)) (digs (val la)) rfl rfl hlen (by omega) (by rw [val_digs, val_digs]; exact Nat.le_of_lt hlt.out) (hB.out.fr H.fr) (hA.out.fr H.fr)) ?_; clear H; rintro e w1 ⟨p5, c5, rfl, hF, hL⟩ H; refine p_r ?_); have HL5 := hid hL; clear hL)
    ((refine p_c H rfl rfl Tryz.func84 (big_any true _ rfl HL5.out) ?_; clear H; rintro e w1 ⟨p6, c6, rfl, hF, hL⟩ H; refine p_r ?_); have HL6 := hid hL; clear hL)
    (revert H; refine p_s2 ?_; intro w1 hf H hk; have hk2 := hid hk; clear hk; (try clear hf))
    (refine pl_done ?_)
    all_goals
     go_wp2_with fail
     refine c_post H rfl rfl rfl ?_
     have hz : zv true (digs (val (digs (val lb)) - val (digs (val la)))) = zv false la + zv true lb := (by rw [val_digs, val_digs]; exact zv_minus2 (by decide) (Nat.le_of_lt hlt.out))
     rw [hz] at HL6
     refine ⟨p6, c6, ?_, H.fr, hk2.out _ _ _ HL6.out⟩
     rw [hz]
   ·have hc := cmpZ_nonneg hge
    have hlen := digs_mono hge
    have hge := hid hge
    go_wp2_with (refine x_q H ?_)
    (refine x_c H (compare_any (val la) (val lb) rfl rfl (hA.out.fr H.fr) (hB.out.fr H.fr)) ?_; clear H; rintro e w1 ⟨rfl, hF⟩ H)
    generalize cmpZ (val la) (val lb) = z at hc ⊢
    go_wp2_with (refine x_q H ?_)
    (revert H; refine w_p 6 (.st 0 (.st 1 (.st 2 (.st 3 (.ld 4 (.ld 5 (.ld 6 .done))))))) ?_; intro w1 H)
    iterate 4 refine p_q ?_
    ((refine p_c H rfl rfl Tryz.func143 (minus_any (digs (val la)) (digs (val lb)) rfl rfl hlen (by omega) (by rw [val_digs, val_digs]; exact hge.out) (hA.out.fr H.fr) (hB.out.fr H.fr)) ?_; clear H; rintro e w1 ⟨p5, c5, rfl, hF, hL⟩ H; refine p_r ?_); have HL5 := hid hL; clear hL)
    ((refine p_c H rfl rfl Tryz.func84 (big_any false _ rfl HL5.out) ?_; clear H; rintro e w1 ⟨p6, c6, rfl, hF, hL⟩ H; refine p_r ?_); have HL6 := hid hL; clear hL)
    (revert H; refine p_s2 ?_; intro w1 hf H hk; have hk2 := hid hk; clear hk; (try clear hf))
    (refine pl_done ?_)
    all_goals
     go_wp2_with fail
     refine c_post H rfl rfl rfl ?_
     have hz : zv false (digs (val (digs (val la)) - val (digs (val lb)))) = zv false la + zv true lb := (by rw [val_digs, val_digs]; exact zv_minus1 (by decide) hge.out)
     rw [hz] at HL6
     refine ⟨p6, c6, ?_, H.fr, hk2.out _ _ _ HL6.out⟩
     rw [hz]
  ·rcases Nat.lt_or_ge (val la) (val lb) with hlt | hge
   ·have hc := cmpZ_neg hlt
    have hlen := digs_mono (Nat.le_of_lt hlt)
    have hlt := hid hlt
    go_wp2_with (refine x_q H ?_)
    (refine x_c H (compare_any (val la) (val lb) rfl rfl (hA.out.fr H.fr) (hB.out.fr H.fr)) ?_; clear H; rintro e w1 ⟨rfl, hF⟩ H)
    generalize cmpZ (val la) (val lb) = z at hc ⊢
    go_wp2_with (refine x_q H ?_)
    (revert H; refine w_p 6 (.st 0 (.st 1 (.st 2 (.st 3 (.ld 4 (.ld 5 (.ld 6 .done))))))) ?_; intro w1 H)
    iterate 4 refine p_q ?_
    ((refine p_c H rfl rfl Tryz.func143 (minus_any (digs (val lb)) (digs (val la)) rfl rfl hlen (by omega) (by rw [val_digs, val_digs]; exact Nat.le_of_lt hlt.out) (hB.out.fr H.fr) (hA.out.fr H.fr)) ?_; clear H; rintro e w1 ⟨p5, c5, rfl, hF, hL⟩ H; refine p_r ?_); have HL5 := hid hL; clear hL)
    ((refine p_c H rfl rfl Tryz.func84 (big_any false _ rfl HL5.out) ?_; clear H; rintro e w1 ⟨p6, c6, rfl, hF, hL⟩ H; refine p_r ?_); have HL6 := hid hL; clear hL)
    (revert H; refine p_s2 ?_; intro w1 hf H hk; have hk2 := hid hk; clear hk; (try clear hf))
    (refine pl_done ?_)
    all_goals
     go_wp2_with fail
     refine c_post H rfl rfl rfl ?_
     have hz : zv false (digs (val (digs (val lb)) - val (digs (val la)))) = zv true la + zv false lb := (by rw [val_digs, val_digs]; exact zv_minus2 (by decide) (Nat.le_of_lt hlt.out))
     rw [hz] at HL6
     refine ⟨p6, c6, ?_, H.fr, hk2.out _ _ _ HL6.out⟩
     rw [hz]
   ·have hc := cmpZ_nonneg hge
    have hlen := digs_mono hge
    have hge := hid hge
    go_wp2_with (refine x_q H ?_)
    (refine x_c H (compare_any (val la) (val lb) rfl rfl (hA.out.fr H.fr) (hB.out.fr H.fr)) ?_; clear H; rintro e w1 ⟨rfl, hF⟩ H)
    generalize cmpZ (val la) (val lb) = z at hc ⊢
    go_wp2_with (refine x_q H ?_)
    (revert H; refine w_p 6 (.st 0 (.st 1 (.st 2 (.st 3 (.ld 4 (.ld 5 (.ld 6 .done))))))) ?_; intro w1 H)
    iterate 4 refine p_q ?_
    ((refine p_c H rfl rfl Tryz.func143 (minus_any (digs (val la)) (digs (val lb)) rfl rfl hlen (by omega) (by rw [val_digs, val_digs]; exact hge.out) (hA.out.fr H.fr) (hB.out.fr H.fr)) ?_; clear H; rintro e w1 ⟨p5, c5, rfl, hF, hL⟩ H; refine p_r ?_); have HL5 := hid hL; clear hL)
    ((refine p_c H rfl rfl Tryz.func84 (big_any true _ rfl HL5.out) ?_; clear H; rintro e w1 ⟨p6, c6, rfl, hF, hL⟩ H; refine p_r ?_); have HL6 := hid hL; clear hL)
    (revert H; refine p_s2 ?_; intro w1 hf H hk; have hk2 := hid hk; clear hk; (try clear hf))
    (refine pl_done ?_)
    all_goals
     go_wp2_with fail
     refine c_post H rfl rfl rfl ?_
     have hz : zv true (digs (val (digs (val la)) - val (digs (val lb)))) = zv true la + zv false lb := (by rw [val_digs, val_digs]; exact zv_minus1 (by decide) hge.out)
     rw [hz] at HL6
     refine ⟨p6, c6, ?_, H.fr, hk2.out _ _ _ HL6.out⟩
     rw [hz]
  ·go_wp2_with (refine x_q H ?_)
   (revert H; refine w_p 6 (.st 0 (.st 1 (.st 2 (.st 3 (.ld 4 (.ld 5 (.ld 6 .done))))))) ?_; intro w1 H)
   iterate 4 refine p_q ?_
   ((refine p_c H rfl rfl Tryz.func81 (plus_any (digs (val la)) (digs (val lb)) rfl rfl (by omega) (by omega) (hA.out.fr H.fr) (hB.out.fr H.fr)) ?_; clear H; rintro e w1 ⟨p5, c5, rfl, hF, hL⟩ H; refine p_r ?_); have HL5 := hid hL; clear hL)
   ((refine p_c H rfl rfl Tryz.func84 (big_any true _ rfl HL5.out) ?_; clear H; rintro e w1 ⟨p6, c6, rfl, hF, hL⟩ H; refine p_r ?_); have HL6 := hid hL; clear hL)
   (revert H; refine p_s2 ?_; intro w1 hf H hk; have hk2 := hid hk; clear hk; (try clear hf))
   (refine pl_done ?_)
   all_goals
    go_wp2_with fail
    refine c_post H rfl rfl rfl ?_
    have hz : zv true (digs (val (digs (val la)) + val (digs (val lb)))) = zv true la + zv true lb := (by rw [val_digs, val_digs]; exact zv_plus _ la lb)
    rw [hz] at HL6
    refine ⟨p6, c6, ?_, H.fr, hk2.out _ _ _ HL6.out⟩
    rw [hz]
end Go.Proofs.YthbeeeclgbpopaaGreatDoor
