/-
  The document's integers: a magnitude shifted down by less than a limb.
-/
import Derived.Test.YtpmebjhlgdhchaaDoorIw39
namespace Go.Proofs.YtpmebjhlgdhchaaDoor
open Go.RowKit
set_option linter.unusedSimpArgs false
set_option linter.unusedVariables false
set_option maxHeartbeats 4000000
set_option maxRecDepth 100000
section
variable {P : Program} {w : World} {a : Act} {o : Oper}
theorem ev_shlW {t t' : TypeId} {x y : Operand} (ho : o.op = .binOp .shl t x y t') {k kk : IntKind} {m p : Int} (hx : a.eval x = .int k m) (hy : a.eval y = .int kk p) (hp : 0 ≤ p) : (execOp a.eval o).run P w = .ok (.value (.int k (k.wrap (m * 2 ^ min p.toNat k.bits)))) w := by
  have e1 : (eqGuard .shl t x y (.int k m) (.int kk p)).run P w = .ok () w := by unfold eqGuard; simp
  unfold execOp
  simp only [ho, hx, hy, Sem.run_bind, e1, Result.andThen_ok, binOp]
  rw [shift_shl_any _ _ _ _ hp]
  rfl
theorem ev_andW {t t' : TypeId} {x y : Operand} (ho : o.op = .binOp .and t x y t') {m n : Int} (hx : a.eval x = .int .u32 m) (hy : a.eval y = .int .u32 n) : (execOp a.eval o).run P w = .ok (.value (.int .u32 (bits .and .u32 m n))) w :=
  ev_bin ho hx hy (fun w => by
    show (pure (Value.int .u32 (bits .and .u32 m n)) : Sem Value).run P w = _
    rfl)
theorem ev_neqD {t t' : TypeId} {x y : Operand} (ho : o.op = .binOp .neq t x y t') {k : IntKind} {m n : Int} (hx : a.eval x = .int k m) (hy : a.eval y = .int k n) : (execOp a.eval o).run P w = .ok (.value (.bool (decide (m ≠ n)))) w := by
  by_cases h : m ≠ n
  · rw [decide_eq_true h]
    exact ev_cmpT ho hx hy rfl (by simp only [cmpP]; exact h)
  · rw [decide_eq_false h]
    exact ev_cmpF ho hx hy rfl (by simp only [cmpP]; exact h)
end
theorem shr_two {x y : Nat} (s : Nat) : ((x : Int) + (y : Int) * 4294967296) / 2 ^ s % 4294967296 = (((x + y * 4294967296) / 2 ^ s % 4294967296 : Nat) : Int) := by
  have e : ((x : Int) + (y : Int) * 4294967296) / 2 ^ s = (((x + y * 4294967296) / 2 ^ s : Nat) : Int) := by
    rw [Int.natCast_ediv, Int.natCast_pow]; congr 1
  rw [e]; omega
theorem shr_one {x : Nat} (s : Nat) : (x : Int) / 2 ^ s % 4294967296 = ((x / 2 ^ s % 4294967296 : Nat) : Int) := by
  have e : (x : Int) / 2 ^ s = ((x / 2 ^ s : Nat) : Int) := by
    rw [Int.natCast_ediv, Int.natCast_pow]; congr 1
  rw [e]; omega
theorem snoc_upto {o : List Nat} {i d : Nat} {f : Nat → Nat} (hl : o.length = i) (h : ∀ j y, o[j]? = some y → y = f j) (hd : d = f i) : ∀ j y, (o ++ [d])[j]? = some y → y = f j := by
  intro j y hy
  by_cases e : j < i
  · rw [List.getElem?_append_left (by omega)] at hy
    exact h j y hy
  · have h1 := (List.getElem?_eq_some_iff.1 hy).1
    rw [List.length_append, List.length_cons, List.length_nil] at h1
    have e2 : j = i := by omega
    subst e2
    rw [List.getElem?_append_right (by omega), hl, Nat.sub_self] at hy
    injection hy with hy
    rw [← hy, hd]
theorem dig0 {l : List Nat} (h : Lim l) {q i Z : Nat} (hq : q < 32) (hz : val (l.drop i) % 18446744073709551616 = Z) : Z / 2 ^ q % 4294967296 = val l / 2 ^ q / 4294967296 ^ i % 4294967296 := by
  have h1 := down_dig h (W := 0) (q := q) (i := i) (Z := Z) hq (by rw [Nat.zero_add]; exact hz)
  rw [Nat.pow_zero, Nat.one_mul] at h1
  exact h1.symm
set_option maxHeartbeats 8000000 in
theorem shr_small {w : World} {p : Option Addr} {n c : Nat} (a : List Nat) (s : Nat) (hn : a.length = n) (hn0 : n ≤ 1000000) (hs : s ≤ 31) (h : LR w p c a) :
    Calls Tryd.prog 72 #[.slice p n c, .int .i64 (s : Int)] w fun e w' => ∃ p' c' o lost, e = .returned (.tuple #[.slice p' n c', .bool lost]) ∧ Fr [] w w' ∧ LR w' p' c' o ∧ o.length = n ∧ val o = val a / 2 ^ s := by
  subst hn
  have Hh := hid h
  obtain ⟨hlc, hcc⟩ := h.clen
  clear h
  have H := (Hp.start [] w).newRow 0 (e := 54) (sz := 1)
  have hW0 : (s : Int) / 32 = 0 := by omega
  have hQ0 : (s : Int) % 32 = (s : Int) := by omega
  go_enter Tryd.func72, Tryd.ntmps72
  go_wp2_with (first | refine x_q H ?_ | refine x_cm (fun h => ?_) (fun h => ?_) | (revert H; (first | (refine x_g ?_; intro g w1 hg hf H) | (refine x_s ?_; intro w1 hf H)); (try clear hf)))
  go_loopw [6, 7] (fun s6 s7 wr => s6 = .bool false ∧ s7 = .int .i64 0 ∧ Hp [] w wr [.obj 0 [] (RowAt 54 1 (.slice none 0 0) 0 [] [])]) (fun _ _ _ => 0)
  case atStart => exact ⟨rfl, rfl, H⟩
  case round =>
    clear H
    obtain ⟨rfl, rfl, H⟩ := hrel
    go_wp2_with (first | refine x_q H ?_ | refine x_cm (fun h => ?_) (fun h => ?_) | (revert H; (first | (refine x_g ?_; intro g w1 hg hf H) | (refine x_s ?_; intro w1 hf H)); (try clear hf)))
    rw [hW0, hQ0]
    go_loopw [6, 8, 10] (fun s6 s8 s10 wr => ∃ (i : Nat) (o : List Nat) (lost : Bool) (pv : Value) (S : List Nat), i ≤ a.length ∧ s10 = .int .i64 (i : Int) ∧ s6 = .bool lost ∧ s8 = pv ∧ Hid (o.length = i) ∧ Hid (Lim o) ∧ Hid (∀ j y, o[j]? = some y → y = val a / 2 ^ s / 4294967296 ^ j % 4294967296) ∧ Hp [] w wr [.obj 0 S (RowAt 54 1 pv i (limbs o) S)]) (fun _ _ v _ => a.length - (intOf v).toNat)
    case atStart => exact ⟨0, [], false, _, _, Nat.zero_le _, rfl, rfl, rfl, hid rfl, hid Lim.nil, hid (fun j y h => by simp at h), H⟩
    case round =>
      clear H
      obtain ⟨i, o, lost, pv, S, hi, rfl, rfl, hpv, Hol, Hlo, Hv, H⟩ := hrel
      obtain ⟨p5, c5, he, _, hc5, _⟩ := (H.rowo 0).form
      unfold maxLen at hc5
      subst he
      subst hpv
      by_cases hin : i < a.length
      · obtain ⟨x, hx⟩ : ∃ x, a[i]? = some x := ⟨_, List.getElem?_eq_getElem hin⟩
        have hxv := limbs_at hx
        have hxB := Hh.out.lim.at hx
        have Hx := hid hx
        clear hx
        obtain ⟨b0, off, rfl, hb0, hcell⟩ := Hh.out.rd.rng (limbs_ne (i := i) hin)
        have H1 := H.pushRng (b := b0) (off := off) hb0 (by simp) hcell
        clear H hcell
        have H := H1
        clear H1
        by_cases hin2 : i + 1 < a.length
        · obtain ⟨y, hy⟩ : ∃ y, a[i + 1]? = some y := ⟨_, List.getElem?_eq_getElem hin2⟩
          have hyv := limbs_at hy
          have hyB := Hh.out.lim.at hy
          have Hy := hid hy
          clear hy
          go_wp2_with (first | refine x_q H ?_ | refine x_cm (fun h => ?_) (fun h => ?_) | refine x_e (ev_over rfl rfl) ?_ | refine x_e (ev_orK rfl rfl rfl) ?_ | (revert H; (first | (refine x_g ?_; intro g w1 hg hf H) | (refine x_s ?_; intro w1 hf H)); (try clear hf)))
          by_cases hi0 : i = 0
          · (revert H; refine w_p 15 (.st 0 (.st 1 (.st 2 (.st 3 (.st 4 (.st 5 (.st 6 (.st 7 (.st 8 (.st 9 (.st 10 (.st 11 (.st 12 (.st 13 (.st 14 .done))))))))))))))) ?_; intro w1 H)
            iterate 5 refine p_q ?_
            iterate 5 (first | refine p_q ?_ | refine p_n ?_)
            (refine p_e rfl (fun w H => ev_shlW rfl rfl rfl (by omega)) ?_)
            (refine p_e rfl (fun w H => ev_subW rfl rfl rfl) ?_)
            (refine p_e rfl (fun w H => ev_andW rfl rfl rfl) ?_)
            (refine p_e rfl (fun w H => ev_neqD rfl rfl rfl) ?_)
            refine p_q ?_
            (refine pl_done ?_)
            all_goals
              go_wp2_with (first | refine x_q H ?_ | refine x_cm (fun h => ?_) (fun h => ?_) | refine x_e (ev_over rfl rfl) ?_ | refine x_e (ev_orK rfl rfl rfl) ?_ | (refine is_blt (b := .append) rfl ?_; go_loud (refine wl_rw rfl (fun K hK => c_aprS H rfl rfl rfl 0 (H.rd (b := g) (off := 0) (vs := [.int .u32 (((x : Int) + (y : Int) * 4294967296) / 2 ^ s % 4294967296)]) List.prefix_rfl) rfl (by intro u hu; simp only [List.mem_singleton] at hu; subst hu; rfl) (by omega) (by unfold maxLen; omega) (fun p1 c1 w1 S' hf H1 => hK _ _ ?_))); (clear hK K); (clear H; have H := H1; clear H1; (try dsimp only at H); (try clear hf)); (simp only [nrm, ↓reduceIte, Nat.reduceAdd])) | (revert H; (first | (refine x_g ?_; intro g w1 hg hf H) | (refine x_s ?_; intro w1 hf H)); (try clear hf)))
            all_goals
              rw [shr_two s, limbs_snoc] at H
              go_roundw
              case rel => exact ⟨i + 1, o ++ [(x + y * 4294967296) / 2 ^ s % 4294967296], _, _, S', by omega, by go_num, rfl, rfl, hid (by rw [List.length_append, Hol.out]; rfl), hid (Hlo.out.app (Lim.cons (Nat.mod_lt _ (by decide)) Lim.nil)), hid (snoc_upto (f := fun j => val a / 2 ^ s / 4294967296 ^ j % 4294967296) Hol.out Hv.out (dig0 Hh.out.lim (by omega) (drop_two Hh.out.lim Hx.out Hy.out))), H.sub (by repeat first | exact List.Sublist.refl _ | exact List.nil_sublist _ | apply List.Sublist.cons_cons | apply List.Sublist.cons)⟩
              case measure => (simp [intOf]; try omega)
          · (revert H; refine w_p 15 (.st 0 (.st 1 (.st 2 (.st 3 (.st 4 (.st 5 (.st 6 (.st 7 (.st 8 (.st 9 (.st 10 (.st 11 (.st 12 (.st 13 (.st 14 .done))))))))))))))) ?_; intro w1 H)
            iterate 5 refine p_q ?_
            iterate 5 (first | refine p_q ?_ | refine p_n ?_)
            (refine pl_no rfl rfl ?_; (simp only [nrm, ↓reduceIte, Nat.reduceAdd]))
            (refine pl_no rfl rfl ?_; (simp only [nrm, ↓reduceIte, Nat.reduceAdd]))
            (refine pl_no rfl rfl ?_; (simp only [nrm, ↓reduceIte, Nat.reduceAdd]))
            (first | refine p_q ?_ | refine p_n ?_)
            refine p_q ?_
            (refine pl_done ?_)
            all_goals
              go_wp2_with (first | refine x_q H ?_ | refine x_cm (fun h => ?_) (fun h => ?_) | refine x_e (ev_over rfl rfl) ?_ | refine x_e (ev_orK rfl rfl rfl) ?_ | (refine is_blt (b := .append) rfl ?_; go_loud (refine wl_rw rfl (fun K hK => c_aprS H rfl rfl rfl 0 (H.rd (b := g) (off := 0) (vs := [.int .u32 (((x : Int) + (y : Int) * 4294967296) / 2 ^ s % 4294967296)]) List.prefix_rfl) rfl (by intro u hu; simp only [List.mem_singleton] at hu; subst hu; rfl) (by omega) (by unfold maxLen; omega) (fun p1 c1 w1 S' hf H1 => hK _ _ ?_))); (clear hK K); (clear H; have H := H1; clear H1; (try dsimp only at H); (try clear hf)); (simp only [nrm, ↓reduceIte, Nat.reduceAdd])) | (revert H; (first | (refine x_g ?_; intro g w1 hg hf H) | (refine x_s ?_; intro w1 hf H)); (try clear hf)))
            all_goals
              rw [shr_two s, limbs_snoc] at H
              go_roundw
              case rel => exact ⟨i + 1, o ++ [(x + y * 4294967296) / 2 ^ s % 4294967296], _, _, S', by omega, by go_num, rfl, rfl, hid (by rw [List.length_append, Hol.out]; rfl), hid (Hlo.out.app (Lim.cons (Nat.mod_lt _ (by decide)) Lim.nil)), hid (snoc_upto (f := fun j => val a / 2 ^ s / 4294967296 ^ j % 4294967296) Hol.out Hv.out (dig0 Hh.out.lim (by omega) (drop_two Hh.out.lim Hx.out Hy.out))), H.sub (by repeat first | exact List.Sublist.refl _ | exact List.nil_sublist _ | apply List.Sublist.cons_cons | apply List.Sublist.cons)⟩
              case measure => (simp [intOf]; try omega)
        · go_wp2_with (first | refine x_q H ?_ | refine x_cm (fun h => ?_) (fun h => ?_) | refine x_e (ev_over rfl rfl) ?_ | refine x_e (ev_orK rfl rfl rfl) ?_ | (revert H; (first | (refine x_g ?_; intro g w1 hg hf H) | (refine x_s ?_; intro w1 hf H)); (try clear hf)))
          by_cases hi0 : i = 0
          · (revert H; refine w_p 15 (.st 0 (.st 1 (.st 2 (.st 3 (.st 4 (.st 5 (.st 6 (.st 7 (.st 8 (.st 9 (.st 10 (.st 11 (.st 12 (.st 13 (.st 14 .done))))))))))))))) ?_; intro w1 H)
            iterate 5 refine p_q ?_
            iterate 5 (first | refine p_q ?_ | refine p_n ?_)
            (refine p_e rfl (fun w H => ev_shlW rfl rfl rfl (by omega)) ?_)
            (refine p_e rfl (fun w H => ev_subW rfl rfl rfl) ?_)
            (refine p_e rfl (fun w H => ev_andW rfl rfl rfl) ?_)
            (refine p_e rfl (fun w H => ev_neqD rfl rfl rfl) ?_)
            refine p_q ?_
            (refine pl_done ?_)
            all_goals
              go_wp2_with (first | refine x_q H ?_ | refine x_cm (fun h => ?_) (fun h => ?_) | refine x_e (ev_over rfl rfl) ?_ | refine x_e (ev_orK rfl rfl rfl) ?_ | (refine is_blt (b := .append) rfl ?_; go_loud (refine wl_rw rfl (fun K hK => c_aprS H rfl rfl rfl 0 (H.rd (b := g) (off := 0) (vs := [.int .u32 ((x : Int) / 2 ^ s % 4294967296)]) List.prefix_rfl) rfl (by intro u hu; simp only [List.mem_singleton] at hu; subst hu; rfl) (by omega) (by unfold maxLen; omega) (fun p1 c1 w1 S' hf H1 => hK _ _ ?_))); (clear hK K); (clear H; have H := H1; clear H1; (try dsimp only at H); (try clear hf)); (simp only [nrm, ↓reduceIte, Nat.reduceAdd])) | (revert H; (first | (refine x_g ?_; intro g w1 hg hf H) | (refine x_s ?_; intro w1 hf H)); (try clear hf)))
            all_goals
              rw [shr_one s, limbs_snoc] at H
              go_roundw
              case rel => exact ⟨i + 1, o ++ [x / 2 ^ s % 4294967296], _, _, S', by omega, by go_num, rfl, rfl, hid (by rw [List.length_append, Hol.out]; rfl), hid (Hlo.out.app (Lim.cons (Nat.mod_lt _ (by decide)) Lim.nil)), hid (snoc_upto (f := fun j => val a / 2 ^ s / 4294967296 ^ j % 4294967296) Hol.out Hv.out (dig0 Hh.out.lim (by omega) (drop_one Hh.out.lim Hx.out (by omega)))), H.sub (by repeat first | exact List.Sublist.refl _ | exact List.nil_sublist _ | apply List.Sublist.cons_cons | apply List.Sublist.cons)⟩
              case measure => (simp [intOf]; try omega)
          · (revert H; refine w_p 15 (.st 0 (.st 1 (.st 2 (.st 3 (.st 4 (.st 5 (.st 6 (.st 7 (.st 8 (.st 9 (.st 10 (.st 11 (.st 12 (.st 13 (.st 14 .done))))))))))))))) ?_; intro w1 H)
            iterate 5 refine p_q ?_
            iterate 5 (first | refine p_q ?_ | refine p_n ?_)
            (refine pl_no rfl rfl ?_; (simp only [nrm, ↓reduceIte, Nat.reduceAdd]))
            (refine pl_no rfl rfl ?_; (simp only [nrm, ↓reduceIte, Nat.reduceAdd]))
            (refine pl_no rfl rfl ?_; (simp only [nrm, ↓reduceIte, Nat.reduceAdd]))
            (first | refine p_q ?_ | refine p_n ?_)
            refine p_q ?_
            (refine pl_done ?_)
            all_goals
              go_wp2_with (first | refine x_q H ?_ | refine x_cm (fun h => ?_) (fun h => ?_) | refine x_e (ev_over rfl rfl) ?_ | refine x_e (ev_orK rfl rfl rfl) ?_ | (refine is_blt (b := .append) rfl ?_; go_loud (refine wl_rw rfl (fun K hK => c_aprS H rfl rfl rfl 0 (H.rd (b := g) (off := 0) (vs := [.int .u32 ((x : Int) / 2 ^ s % 4294967296)]) List.prefix_rfl) rfl (by intro u hu; simp only [List.mem_singleton] at hu; subst hu; rfl) (by omega) (by unfold maxLen; omega) (fun p1 c1 w1 S' hf H1 => hK _ _ ?_))); (clear hK K); (clear H; have H := H1; clear H1; (try dsimp only at H); (try clear hf)); (simp only [nrm, ↓reduceIte, Nat.reduceAdd])) | (revert H; (first | (refine x_g ?_; intro g w1 hg hf H) | (refine x_s ?_; intro w1 hf H)); (try clear hf)))
            all_goals
              rw [shr_one s, limbs_snoc] at H
              go_roundw
              case rel => exact ⟨i + 1, o ++ [x / 2 ^ s % 4294967296], _, _, S', by omega, by go_num, rfl, rfl, hid (by rw [List.length_append, Hol.out]; rfl), hid (Hlo.out.app (Lim.cons (Nat.mod_lt _ (by decide)) Lim.nil)), hid (snoc_upto (f := fun j => val a / 2 ^ s / 4294967296 ^ j % 4294967296) Hol.out Hv.out (dig0 Hh.out.lim (by omega) (drop_one Hh.out.lim Hx.out (by omega)))), H.sub (by repeat first | exact List.Sublist.refl _ | exact List.nil_sublist _ | apply List.Sublist.cons_cons | apply List.Sublist.cons)⟩
              case measure => (simp [intOf]; try omega)
      · have ei : i = a.length := by omega
        have hval : val o = val a / 2 ^ s := by
          have h1 := digits_val Hv.out
          have h2 := val_lt Hh.out.lim
          have h3 := Nat.div_le_self (val a) (2 ^ s)
          rw [h1, Hol.out, ei]
          exact Nat.mod_eq_of_lt (by omega)
        have Hval := hid hval
        have Ei := hid ei
        clear hval ei
        go_wp2_with (first | refine x_q H ?_ | refine x_cm (fun h => ?_) (fun h => ?_) | (revert H; (first | (refine x_g ?_; intro g w1 hg hf H) | (refine x_s ?_; intro w1 hf H)); (try clear hf)))
        obtain ⟨p6, c6, e6, e7, hL⟩ := LR.of_row (H.rowo 0) Hlo.out
        injection e6 with e61 e62 e63
        subst e61 e63
        refine bodyPost_ret (results_tmp2 rfl _ _ _) rfl ?_
        exact ⟨_, _, o, _, by rw [← Ei.out]; rfl, H.fr, hL, by rw [Hol.out, Ei.out], Hval.out⟩
end Go.Proofs.YtpmebjhlgdhchaaDoor
