/-
  The walk of DecimalWrites.
-/
import Derived.Test.YthbeeeclgbpopaaGreatDoorYFa8
import Derived.Test.YthbeeeclgbpopaaGreatDoorYWa4
import Derived.Test.YthbeeeclgbpopaaGreatDoorYWa5
namespace Go.Proofs.YthbeeeclgbpopaaGreatDoor
open Go.RowKit
set_option linter.unusedSimpArgs false
set_option linter.unusedVariables false
set_option maxHeartbeats 8000000
set_option maxRecDepth 100000

theorem wf_word {a : Int} (h : (Lit.int .u64 a).wf = true) : ∃ b : Nat, a = (b : Int) ∧ b < 18446744073709551616 := by
  simp [Lit.wf, IntKind.min, IntKind.max, IntKind.bits, IntKind.signed] at h
  exact ⟨a.toNat, by omega, by omega⟩
theorem ExO.one {b z : Nat} {l m : List UInt8} (h : ExO b z l) (g : ExO b z m) : l = m := by
  obtain ⟨M, e, h1, h2, h3⟩ := h
  obtain ⟨N, f, g1, g2, g3⟩ := g
  obtain ⟨rfl, rfl⟩ := nm_one h1 g1 h2 g2
  rcases h3 with ⟨j, a1, a2⟩ | ⟨k, a1, a2, a3⟩
  · rcases g3 with ⟨i, c1, c2⟩ | ⟨k, c1, c2, c3⟩
    · obtain rfl : i = j := by omega
      rw [a2, c2]
    · omega
  · rcases g3 with ⟨i, c1, c2⟩ | ⟨i, c1, c2, c3⟩
    · omega
    · obtain rfl : i = k := by omega
      rw [a3, c3]
theorem ev_strEqS {P : Program} {a : Act} {w : World} {o : Oper} {t t' : TypeId} {x y : Operand} (ho : o.op = .binOp .eql t x y t') {s : List UInt8} (hx : a.eval x = strV s) (hy : a.eval y = strV s) : (execOp a.eval o).run P w = .ok (.value (.bool true)) w := ev_strEqV ho hx hy (hid (by simp))
theorem ev_strNeS {P : Program} {a : Act} {w : World} {o : Oper} {t t' : TypeId} {x y : Operand} (ho : o.op = .binOp .neq t x y t') {s : List UInt8} (hx : a.eval x = strV s) (hy : a.eval y = strV s) : (execOp a.eval o).run P w = .ok (.value (.bool false)) w := by
  have := ev_strNe (P := P) (w := w) ho hx hy
  simpa using this
set_option maxHeartbeats 16000000 in
theorem writes_core (W : World) (hT : La W) {b : Nat} {n : Int} (hn : n ≤ 40 ∨ 800 < n) (PD : List UInt8 → Int → Int → Prop) (PF PE : List UInt8 → Prop) {E : Int}
    (uD : ∀ s x e s' x' e', PD s x e → PD s' x' e' → s = s' ∧ x = x' ∧ e = e') (uF : ∀ s s', PF s → PF s' → s = s') (uE : ∀ s s', PE s → PE s' → s = s')
    (d1 : ∀ w, La w → Calls Tryz.prog 19 #[.int .u64 (b : Int), .int .i64 n] w fun r w' => ∃ s x e, r = .returned (.tuple #[strV s, .int .i64 x, .int .i64 e]) ∧ Fr [] w w' ∧ PD s x e)
    (d2 : ∀ w, La w → Calls Tryz.prog 24 #[.int .u64 (b : Int), .int .i64 n] w fun r w' => ∃ s x e, r = .returned (.tuple #[strV s, .int .i64 x, .int .i64 e]) ∧ Fr [] w w' ∧ PD s x e)
    (f1 : ∀ w, La w → Calls Tryz.prog 17 #[.int .u64 (b : Int)] w fun r w' => ∃ s, r = .returned (strV s) ∧ Fr [] w w' ∧ PF s)
    (f2 : ∀ w, La w → Calls Tryz.prog 25 #[.int .u64 (b : Int)] w fun r w' => ∃ s, r = .returned (strV s) ∧ Fr [] w w' ∧ PF s)
    (e1 : ∀ w, La w → Calls Tryz.prog 26 #[.int .u64 (b : Int)] w fun r w' => ∃ s, r = .returned (.tuple #[strV s, .int .i64 E]) ∧ Fr [] w w' ∧ PE s)
    (e2 : ∀ w, La w → Calls Tryz.prog 27 #[.int .u64 (b : Int)] w fun r w' => ∃ s, r = .returned (.tuple #[strV s, .int .i64 E]) ∧ Fr [] w w' ∧ PE s) :
    Calls Tryz.prog 8 #[.int .u64 (b : Int), .int .i64 n] W fun e w' => e = .returned (.bool true) ∧ Fr [] W w' := by
  have HT := hid hT
  have D1 := hid d1
  have D2 := hid d2
  have F1 := hid f1
  have F2 := hid f2
  have E1 := hid e1
  have E2 := hid e2
  have UD := hid uD
  have UF := hid uF
  have UE := hid uE
  clear hT d1 d2 f1 f2 e1 e2 uD uF uE
  have H := Hp.start [] W
  rcases hn with hn | hn
  all_goals
    go_enter Tryz.func8, Tryz.ntmps8
    go_wp2_with (refine x_q H ?_)
    (refine x_c H (D1.out _ (HT.out.fr H.fr)) ?_; clear H; rintro e w1 ⟨s1, x1, e1, rfl, hF, hp1⟩ H; replace hF := hF.kp; have HP1 := hid hp1; clear hp1)
    go_wp2_with fail
    (refine x_c H (D2.out _ (HT.out.fr H.fr)) ?_; clear H; rintro e w1 ⟨s2, x2, e2, rfl, hF, hp2⟩ H; replace hF := hF.kp; obtain ⟨rfl, rfl, rfl⟩ := UD.out _ _ _ _ _ _ HP1.out hp2; clear hp2)
    go_wp2_with (first | refine x_e (ev_strNeS rfl rfl rfl) ?_ | refine x_q H ?_)
    (refine x_c H (F1.out _ (HT.out.fr H.fr)) ?_; clear H; rintro e w1 ⟨s3, rfl, hF, hp3⟩ H; replace hF := hF.kp; have HP3 := hid hp3; clear hp3)
    go_wp2_with fail
    (refine x_c H (F2.out _ (HT.out.fr H.fr)) ?_; clear H; rintro e w1 ⟨s4, rfl, hF, hp4⟩ H; replace hF := hF.kp; obtain rfl := UF.out _ _ HP3.out hp4; clear hp4)
    go_wp2_with (refine x_e (ev_strNeS rfl rfl rfl) ?_)
    (refine x_c H (E1.out _ (HT.out.fr H.fr)) ?_; clear H; rintro e w1 ⟨s5, rfl, hF, hp5⟩ H; replace hF := hF.kp; have HP5 := hid hp5; clear hp5)
    go_wp2_with fail
    (refine x_c H (E2.out _ (HT.out.fr H.fr)) ?_; clear H; rintro e w1 ⟨s6, rfl, hF, hp6⟩ H; replace hF := hF.kp; obtain rfl := UE.out _ _ HP5.out hp6; clear hp6)
    go_wp2_with (first | refine x_e (ev_strEqS rfl rfl rfl) ?_ | refine x_q H ?_)
    (refine x_c H (awakeD_any _ (HT.out.fr H.fr)) ?_; clear H; rintro e w1 ⟨rfl, hF⟩ H; replace hF := hF.kp)
    go_wp2_with fail
    go_ret
    exact ⟨rfl, H.fr⟩
theorem decimalWrites_walk (W : World) (hL : laidMetH Tryz.prog laid7 W) (f : Int) (w0 : (Lit.int .u64 f).wf = true) (n : Int) (w1 : (Lit.int .i64 n).wf = true) :
    Calls Tryz.prog 8 #[.int .u64 f, .int .i64 n] W fun e w' => e = .returned (.bool true) ∧ Fr [] W w' := by
  obtain ⟨b, rfl, hb⟩ := wf_word w0
  have hT := la_of hL
  by_cases hn : 40 < n ∧ n ≤ 800
  · obtain ⟨hn1, hn2⟩ := hn
    have HT := hid hT
    clear w0 w1 hL hT
    have H := Hp.start [] W
    go_enter Tryz.func8, Tryz.ntmps8
    go_wp2_with (refine x_q H ?_)
    (refine x_c H (awakeD_any _ (HT.out.fr H.fr)) ?_; clear H; rintro e w1 ⟨rfl, hF⟩ H; replace hF := hF.kp)
    go_wp2_with fail
    go_ret
    exact ⟨rfl, H.fr⟩
  · have hn2 : n ≤ 40 ∨ 800 < n := by omega
    obtain ⟨k, hk⟩ : ∃ k, kindF b = k := ⟨_, rfl⟩
    have hkr := kindF_range b
    rw [hk] at hkr
    have one1 : ∀ {v : List UInt8}, ∀ s s' : List UInt8, s = v → s' = v → s = s' := fun s s' h g => h.trans g.symm
    by_cases h1 : k = 1
    · subst h1
      have hk2 : b / 4503599627370496 % 2048 ≠ 2047 := by
        intro h
        unfold kindF at hk
        rw [if_pos h] at hk
        split at hk <;> exact absurd hk (by decide)
      obtain ⟨z, hz⟩ : ∃ z, b % 9223372036854775808 = z := ⟨_, rfl⟩
      have h0 : 0 < z := by
        rcases kind_cases hb rfl rfl with ⟨h, _⟩ | ⟨_, _, ⟨_, h⟩ | ⟨h, _⟩⟩
        · exact absurd h hk2
        · rw [← hz]; exact h
        · rw [hk] at h; exact absurd h (by decide)
      have hz1 : z < 9218868437227405312 := by
        rcases kind_cases hb rfl rfl with ⟨h, _⟩ | ⟨_, h, _⟩
        · exact absurd h hk2
        · rw [← hz]; exact h
      have fF1 := fun w hT => format_any1 w hb hk (hid hz) h0 hz1 hT
      have fF2 := fun w hT => rformat1_any w hb hk hk2 (hid hz) h0 hz1 hT
      have fE1 : ∀ w, La w → Calls Tryz.prog 26 #[.int .u64 (b : Int)] w fun r w' => ∃ s, r = .returned (.tuple #[strV s, .int .i64 0]) ∧ Fr [] w w' ∧ ExO b z s := fun w hT => exactO_any w hb hk2 (by rw [hk]; decide) (hid hz) hz1 h0 hT
      have fE2 := fun w hT => rexactO_any w hb hk2 (hid hz) h0 hz1 hT
      by_cases hr : 1 ≤ n ∧ n ≤ 800
      · obtain ⟨m, hm⟩ := Int.eq_ofNat_of_zero_le (show 0 ≤ n by omega)
        refine writes_core W hT hn2 (fun s x e => Dgs z m s x ∧ e = 0) (Fmt b z) (ExO b z) ?_ (fun s s' => Fmt.one) (fun s s' => ExO.one) ?_ ?_ fF1 fF2 fE1 fE2
        · rintro s x e s' x' e' ⟨h, rfl⟩ ⟨g, rfl⟩
          obtain ⟨rfl, rfl⟩ := h.one g
          exact ⟨rfl, rfl, rfl⟩
        · intro w hT
          subst hm
          refine Calls.mono (digits_any w hb hk (hid hz) h0 hz1 (by omega) (by omega) hT) ?_
          rintro r w' ⟨ds, x, rfl, hF, hd⟩
          exact ⟨ds, x, 0, rfl, hF, hd, rfl⟩
        · intro w hT
          refine Calls.mono (rdigits_any w hm hb hk hk2 (hid hz) h0 hz1 (by omega) (by omega) hT) ?_
          rintro r w' ⟨ds, x, rfl, hF, hd⟩
          exact ⟨ds, x, 0, rfl, hF, hd, rfl⟩
      · refine writes_core W hT hn2 (fun s x e => s = [] ∧ x = 0 ∧ e = 3) (Fmt b z) (ExO b z) ?_ (fun s s' => Fmt.one) (fun s s' => ExO.one) ?_ ?_ fF1 fF2 fE1 fE2
        · rintro s x e s' x' e' ⟨rfl, rfl, rfl⟩ ⟨rfl, rfl, rfl⟩
          exact ⟨rfl, rfl, rfl⟩
        · intro w hT
          refine Calls.mono (pdigER_any w hb (hid hk) (by omega)) ?_
          rintro r w' ⟨rfl, hF⟩
          exact ⟨_, _, _, rfl, hF, rfl, rfl, rfl⟩
        · intro w hT
          refine Calls.mono (rdigER_any w hb (hid hk) (by omega)) ?_
          rintro r w' ⟨rfl, hF⟩
          exact ⟨_, _, _, rfl, hF, rfl, rfl, rfl⟩
    · have hD1 : ∀ w, La w → Calls Tryz.prog 19 #[.int .u64 (b : Int), .int .i64 n] w fun r w' => ∃ s x e, r = .returned (.tuple #[strV s, .int .i64 x, .int .i64 e]) ∧ Fr [] w w' ∧ s = [] ∧ x = 0 ∧ e = 4 := by
        intro w hT
        refine Calls.mono (pdigE_any w hb (hid hk) h1) ?_
        rintro r w' ⟨rfl, hF⟩
        exact ⟨_, _, _, rfl, hF, rfl, rfl, rfl⟩
      have hD2 : ∀ w, La w → Calls Tryz.prog 24 #[.int .u64 (b : Int), .int .i64 n] w fun r w' => ∃ s x e, r = .returned (.tuple #[strV s, .int .i64 x, .int .i64 e]) ∧ Fr [] w w' ∧ s = [] ∧ x = 0 ∧ e = 4 := by
        intro w hT
        refine Calls.mono (rdigE_any w hb (hid hk) h1) ?_
        rintro r w' ⟨rfl, hF⟩
        exact ⟨_, _, _, rfl, hF, rfl, rfl, rfl⟩
      have hF1 : ∀ w, La w → Calls Tryz.prog 17 #[.int .u64 (b : Int)] w fun r w' => ∃ s, r = .returned (strV s) ∧ Fr [] w w' ∧ s = fmtS b k := by
        intro w hT
        refine Calls.mono (formatS_any w hb (hid hk) h1 (hid rfl)) ?_
        rintro r w' ⟨rfl, hF⟩
        exact ⟨_, rfl, hF, rfl⟩
      have hF2 : ∀ w, La w → Calls Tryz.prog 25 #[.int .u64 (b : Int)] w fun r w' => ∃ s, r = .returned (strV s) ∧ Fr [] w w' ∧ s = fmtS b k := by
        intro w hT
        refine Calls.mono (rformatS_any w hb (hid hk) h1 (hid rfl)) ?_
        rintro r w' ⟨rfl, hF⟩
        exact ⟨_, rfl, hF, rfl⟩
      have uD : ∀ (s : List UInt8) (x e : Int) (s' : List UInt8) (x' e' : Int), (s = [] ∧ x = 0 ∧ e = 4) → (s' = [] ∧ x' = 0 ∧ e' = 4) → s = s' ∧ x = x' ∧ e = e' := by
        rintro s x e s' x' e' ⟨rfl, rfl, rfl⟩ ⟨rfl, rfl, rfl⟩
        exact ⟨rfl, rfl, rfl⟩
      by_cases hk0 : k = 0
      · subst hk0
        refine writes_core W hT hn2 _ (fun s => s = fmtS b 0) (fun s => s = mns b ++ [48]) uD one1 one1 hD1 hD2 hF1 hF2 (E := 0) ?_ ?_
        · intro w hT
          refine Calls.mono (exactZ_any w hb hk hT (hid rfl)) ?_
          rintro r w' ⟨rfl, hF⟩
          exact ⟨_, rfl, hF, rfl⟩
        · intro w hT
          refine Calls.mono (rexactZ_any w hb hk hT (hid rfl)) ?_
          rintro r w' ⟨rfl, hF⟩
          exact ⟨_, rfl, hF, rfl⟩
      · have hx : b / 4503599627370496 % 2048 = 2047 := by
          rcases kind_cases hb rfl rfl with ⟨h, _⟩ | ⟨_, _, ⟨h, _⟩ | ⟨h, _⟩⟩
          · exact h
          · rw [hk] at h; exact absurd h h1
          · rw [hk] at h; exact absurd h hk0
        refine writes_core W hT hn2 _ (fun s => s = fmtS b k) (fun s => s = []) uD one1 one1 hD1 hD2 hF1 hF2 (E := 4) ?_ ?_
        · intro w hT
          refine Calls.mono (exactN_any w hb (hid rfl) (hid rfl) hx) ?_
          rintro r w' ⟨rfl, hF⟩
          exact ⟨_, rfl, hF, rfl⟩
        · intro w hT
          refine Calls.mono (rexactN_any w hb (hid rfl) hx) ?_
          rintro r w' ⟨rfl, hF⟩
          exact ⟨_, rfl, hF, rfl⟩
end Go.Proofs.YthbeeeclgbpopaaGreatDoor
