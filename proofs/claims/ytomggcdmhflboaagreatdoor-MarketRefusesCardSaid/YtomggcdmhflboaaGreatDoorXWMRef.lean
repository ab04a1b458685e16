import Derived.Test.YtomggcdmhflboaaGreatDoorXMg1
import Derived.Test.YtomggcdmhflboaaGreatDoorXSx
import Derived.Test.YtomggcdmhflboaaGreatDoorXPd2
namespace Go.Proofs.YtomggcdmhflboaaGreatDoor
open Go.RowKit
set_option linter.unusedSimpArgs false
set_option linter.unusedVariables false
set_option maxHeartbeats 8000000
set_option maxRecDepth 100000
attribute [local irreducible] wpList Code.wp Plan.wp stsE mixE pre cntE
theorem hM_len : hM.length = 51 := rfl
theorem headM_eq (n : Nat) : hM ++ (dgM n ++ 32 :: dgM n) ++ [32] = headM n := by unfold headM; simp only [List.append_assoc, List.cons_append, List.nil_append]
theorem bodyM_eq (i : Nat) : bodyM i ++ (dgM (i + 1) ++ 32 :: dgM (i + 1)) ++ [10] = bodyM (i + 1) := by show _ = bodyM i ++ dgM (i + 1) ++ [32] ++ dgM (i + 1) ++ [10]; simp only [List.append_assoc, List.cons_append, List.nil_append]
theorem tM_eq (n c : Nat) : headM n ++ (dgM c ++ [10]) ++ bodyM n = tM n c := by unfold tM; simp only [List.append_assoc, List.cons_append, List.nil_append]
def uM (n : Nat) (x : UInt8) : List UInt8 := tM n (n + 1) ++ [49, 32, x, 10]
theorem uM_eq (n : Nat) (x : UInt8) : tM n (n + 1) ++ [49, 32, x, 10] = uM n x := rfl
theorem uM_len (n : Nat) (x : UInt8) : (uM n x).length = 61 + 4 * n := by unfold uM; rw [List.length_append, tM_len]; simp only [List.length_cons, List.length_nil]; omega
theorem texts_u {n : Nat} (h : 2 ≤ n ∧ n ≤ 5) : mparse (uM n 49) = .error (n + 3, 102) ∧ mparse (uM n 50) = .error (n + 3, 102) := ⟨(texts_say h).2.2.1, (texts_say h).2.2.2.1⟩
theorem bodyM_zero : strV (bodyM 0) = .string (ByteArray.mk #[]) := rfl
theorem dgM_len (n : Nat) : (dgM n).length = 1 := rfl
theorem itoa_small (w : World) (x : Nat) (hx : x ≤ 9) {z : Int} (hz : Hid (z = (x : Int))) (ht : La w) :
  Calls Tryz.prog 11 #[.int .i64 z] w fun e w' => e = .returned (strV (dgM x)) ∧ Fr [] w w' := by
 rw [hz.out]
 refine Calls.mono (itoa_any x (by omega) w ht.2) ?_
 rintro e w' ⟨rfl, hF⟩
 refine ⟨?_, hF⟩
 rw [Lib.decDigits, dif_pos (by omega)]
 rfl
theorem place4 (w : World) (a : Int) (ha : -9223372036854775808 ≤ a ∧ a ≤ 9223372036854775807) :
  Calls Tryz.prog 10 #[.int .i64 a, .int .i64 4] w fun e w' => ∃ k : Nat, e = .returned (.int .i64 (k : Int)) ∧ k < 4 ∧ Fr [] w w' := by
 have H := Hp.start [] w
 go_enter Tryz.func10, Tryz.ntmps10
 go_wp2_with (refine x_q H ?_)
 go_ret
 exact ⟨(a % 18446744073709551616 % 4).toNat, by rw [Int.toNat_of_nonneg (by omega)]; rfl, by omega, H.fr⟩
theorem wf_range {a : Int} (h : (Lit.int .i64 a).wf = true) : -9223372036854775808 ≤ a ∧ a ≤ 9223372036854775807 := by simp [Lit.wf, IntKind.min, IntKind.max, IntKind.bits, IntKind.signed] at h; omega
theorem ev_addZ {P : Program} {a : Act} {w : World} {o : Oper} {t t' : TypeId} {x y : Operand} (ho : o.op = .binOp .add t x y t') {m n : Int} (z : Int) (hx : a.eval x = .int .i64 m) (hy : a.eval y = .int .i64 n) (hz : Hid (m + n = z)) (hr : inr .i64 z) : (execOp a.eval o).run P w = .ok (.value (.int .i64 z)) w := by
 have hz := hz.out
 subst hz
 exact ev_add ho hx hy hr
open Go.ChangeShapes Go.WideShapes in
theorem arg_ints {H : Type} {enc : TypeId × Value → H} {W : World} {base : Nat} {d : DataW H} {p : List MemPlace} (v : Value) (k : DataW.Trod enc Tryz.prog W 0 (fun _ => true) true 25 v d p) (o : Value.okWide Tryz.prog W .any base 25 v) : ∃ l : List Int, SArg W v l.length (l.map fun x => .int .i64 x) ∧ ∀ x ∈ l, -9223372036854775808 ≤ x ∧ x ≤ 9223372036854775807 := by
 obtain ⟨n, hn⟩ := k
 obtain ⟨a, l, c, rfl⟩ := okWide_slice Tryz.underlying25 o
 obtain ⟨v', s, h1, h2, h3⟩ := open_all (fun x : Int => [Value.int .i64 x]) (fun x => -9223372036854775808 ≤ x ∧ x ≤ 9223372036854775807) 1 Tryz.underlying25 (by kernel_rfl) (fun n es y hl hy => by
  obtain ⟨z, rfl, _, hw⟩ := DataW.trod_int Tryz.underlying3 hy
  refine ⟨z, rfl, ?_⟩
  simp [Lit.wf, IntKind.min, IntKind.max, IntKind.bits, IntKind.signed] at hw
  omega) hn
 simp only [Value.cells, List.cons.injEq, and_true] at h1
 subst h1
 have e : s.flatMap (fun x : Int => [Value.int .i64 x]) = s.map fun x => .int .i64 x := by rw [List.map_eq_flatMap]
 rw [e] at h2
 exact ⟨s, h2, h3⟩
attribute [local irreducible] headM bodyM tM dgM uM
set_option maxHeartbeats 64000000 in
theorem marketRefuses_walk (W : World) (hL : laidMetH Tryz.prog laid7 W) (a0 : Int) (w0 : (Lit.int .i64 a0).wf = true) (v1 : Value) (o1 : ∃ l : List Int, SArg W v1 l.length (l.map fun x => .int .i64 x) ∧ ∀ x ∈ l, -9223372036854775808 ≤ x ∧ x ≤ 9223372036854775807) :
  Calls Tryz.prog 4 #[.int .i64 a0, v1] W fun e w' => e = .returned (.bool true) ∧ Fr [] W w' := by
 obtain ⟨xs, ⟨p, c, rfl, _, hlc, hcm, _⟩, _⟩ := o1
 have ha := wf_range w0
 have HT := hid (laM_of hL)
 have HLh := hid (lh_of hL)
 clear w0 hL
 unfold maxLen at hcm
 have H := Hp.start [] W
 by_cases h60 : 60 < xs.length
 ·go_enter Tryz.func4, Tryz.ntmps4
  go_wp2_with (refine x_q H ?_)
  (refine x_c H (awakeM_any _ (HT.out.fr H.fr) (HLh.out.fr H.fr (by simp) (by simp))) ?_; clear H; rintro e w1 ⟨rfl, hF⟩ H; clear hF)
  go_wp2_with fail
  go_ret
  exact ⟨rfl, H.fr⟩
 ·go_enter Tryz.func4, Tryz.ntmps4
  go_wp2_with (refine x_q H ?_)
  (refine x_c H (place4 _ a0 ha) ?_; clear H; rintro e w1 ⟨k, rfl, hk, hF⟩ H; clear hF)
  obtain ⟨n, hn⟩ : ∃ n, k + 2 = n := ⟨_, rfl⟩
  have hn2 : 2 ≤ n ∧ n ≤ 5 := by omega
  have HN := hid (show (2 : Int) + (k : Int) = (n : Int) by omega)
  have hiN : inr .i64 (n : Int) := by simp only [inr]; omega
  clear hn hk
  go_wp2_with (refine x_e (ev_addZ rfl (n : Int) rfl rfl HN hiN) ?_)
  (refine x_c H (itoa_small _ n (by omega) (hid rfl) (HT.out.fr H.fr)) ?_; clear H; rintro e w1 ⟨rfl, hF⟩ H; clear hF)
  go_wp2_with (first | refine x_e (ev_strCat (s := hM) (r := dgM n) (q := hM ++ dgM n) rfl rfl rfl (hid rfl) (by simp only [List.length_append, List.length_cons, List.length_nil, bodyM_len, headM_len, hM_len, dgM_len, tM_len, uM_len]; omega)) ?_ | refine x_e (ev_strCat (s := hM ++ dgM n) (r := [32]) (q := hM ++ (dgM n ++ [32])) rfl rfl rfl (hid (by simp)) (by simp only [List.length_append, List.length_cons, List.length_nil, bodyM_len, headM_len, hM_len, dgM_len, tM_len, uM_len]; omega)) ?_)
  (refine x_c H (itoa_small _ n (by omega) (hid rfl) (HT.out.fr H.fr)) ?_; clear H; rintro e w1 ⟨rfl, hF⟩ H; clear hF)
  go_wp2_with (first | refine x_e (ev_strCat (s := hM ++ (dgM n ++ [32])) (r := dgM n) (q := hM ++ (dgM n ++ 32 :: dgM n)) rfl rfl rfl (hid (by simp)) (by simp only [List.length_append, List.length_cons, List.length_nil, bodyM_len, headM_len, hM_len, dgM_len, tM_len, uM_len]; omega)) ?_ | refine x_e (ev_strCat (s := hM ++ (dgM n ++ 32 :: dgM n)) (r := [32]) (q := headM n) rfl rfl rfl (hid (headM_eq n)) (by simp only [List.length_append, List.length_cons, List.length_nil, bodyM_len, headM_len, hM_len, dgM_len, tM_len, uM_len]; omega)) ?_)
  go_loopw [6, 7] (fun s6 s7 wr => ∃ i : Nat, s6 = strV (bodyM i) ∧ s7 = .int .i64 ((i : Int) + 1) ∧ i ≤ n ∧ Hp [] W wr []) (fun _ v _ => (n + 1) - (intOf v).toNat)
  case atStart => exact ⟨0, bodyM_zero.symm, rfl, Nat.zero_le _, H⟩
  case round =>
   clear H
   obtain ⟨i, rfl, rfl, hi, H⟩ := hrel
   by_cases hlt : i < n
   ·have HI1 := hid (show (i : Int) + 1 = ((i + 1 : Nat) : Int) by omega)
    go_wp2_with (refine x_q H ?_)
    (refine x_c H (itoa_small _ (i + 1) (by omega) HI1 (HT.out.fr H.fr)) ?_; clear H; rintro e w1 ⟨rfl, hF⟩ H; clear hF)
    go_wp2_with (first | refine x_e (ev_strCat (s := bodyM i) (r := dgM (i + 1)) (q := bodyM i ++ dgM (i + 1)) rfl rfl rfl (hid rfl) (by simp only [List.length_append, List.length_cons, List.length_nil, bodyM_len, headM_len, hM_len, dgM_len, tM_len, uM_len]; omega)) ?_ | refine x_e (ev_strCat (s := bodyM i ++ dgM (i + 1)) (r := [32]) (q := bodyM i ++ (dgM (i + 1) ++ [32])) rfl rfl rfl (hid (by simp)) (by simp only [List.length_append, List.length_cons, List.length_nil, bodyM_len, headM_len, hM_len, dgM_len, tM_len, uM_len]; omega)) ?_)
    (refine x_c H (itoa_small _ (i + 1) (by omega) HI1 (HT.out.fr H.fr)) ?_; clear H; rintro e w1 ⟨rfl, hF⟩ H; clear hF)
    go_wp2_with (first | refine x_e (ev_strCat (s := bodyM i ++ (dgM (i + 1) ++ [32])) (r := dgM (i + 1)) (q := bodyM i ++ (dgM (i + 1) ++ 32 :: dgM (i + 1))) rfl rfl rfl (hid (by simp)) (by simp only [List.length_append, List.length_cons, List.length_nil, bodyM_len, headM_len, hM_len, dgM_len, tM_len, uM_len]; omega)) ?_ | refine x_e (ev_strCat (s := bodyM i ++ (dgM (i + 1) ++ 32 :: dgM (i + 1))) (r := [10]) (q := bodyM (i + 1)) rfl rfl rfl (hid (bodyM_eq i)) (by simp only [List.length_append, List.length_cons, List.length_nil, bodyM_len, headM_len, hM_len, dgM_len, tM_len, uM_len]; omega)) ?_)
    go_roundw
    case rel => exact ⟨i + 1, rfl, by show Value.int .i64 _ = Value.int .i64 _; rfl, by omega, H⟩
    case measure => (simp [intOf]; try omega)
   ·obtain rfl : i = n := by omega
    clear hlt hi
    have HNP := hid (show (i : Int) + 1 = ((i + 1 : Nat) : Int) by omega)
    have HNM := hid (show (i : Int) - 1 = ((i - 1 : Nat) : Int) by omega)
    have HS := hid (texts_say hn2)
    have HU := hid (texts_u hn2)
    go_wp2_with (refine x_q H ?_)
    (refine x_c H (itoa_small _ (i + 1) (by omega) HNP (HT.out.fr H.fr)) ?_; clear H; rintro e w1 ⟨rfl, hF⟩ H; clear hF)
    go_wp2_with (first | refine x_e (ev_strCat (s := headM i) (r := dgM (i + 1)) (q := headM i ++ dgM (i + 1)) rfl rfl rfl (hid rfl) (by simp only [List.length_append, List.length_cons, List.length_nil, bodyM_len, headM_len, hM_len, dgM_len, tM_len, uM_len]; omega)) ?_ | refine x_e (ev_strCat (s := headM i ++ dgM (i + 1)) (r := [10]) (q := headM i ++ (dgM (i + 1) ++ [10])) rfl rfl rfl (hid (by simp)) (by simp only [List.length_append, List.length_cons, List.length_nil, bodyM_len, headM_len, hM_len, dgM_len, tM_len, uM_len]; omega)) ?_ | refine x_e (ev_strCat (s := headM i ++ (dgM (i + 1) ++ [10])) (r := bodyM i) (q := tM i (i + 1)) rfl rfl rfl (hid (tM_eq i (i + 1))) (by simp only [List.length_append, List.length_cons, List.length_nil, bodyM_len, headM_len, hM_len, dgM_len, tM_len, uM_len]; omega)) ?_ | (revert H; intro H; refine wl_rw rfl (fun K hK => c_sbM H rfl (s := tM i (i + 1)) rfl Tryz.underlying22 Tryz.underlying5 11 (fun g w1 cap hf H1 => hK _ _ ?_)); clear hK K; clear H; have H := H1; clear H1; clear hf; (simp only [nrm, ↓reduceIte, Nat.reduceAdd])))
    have hp := HS.out.1
    refine Calls.mono (parseM_any _ (tM i (i + 1)) (by simp only [List.length_append, List.length_cons, List.length_nil, bodyM_len, headM_len, hM_len, dgM_len, tM_len, uM_len]; omega) (H.ob 11).rd (HT.out.fr H.fr) (HLh.out.fr H.fr (by simp) (by simp)) (fun h m n L e => by rw [hp] at e; cases e)) ?_
    rintro e w1 ⟨hF, hpost⟩
    have he : e = .returned (.tuple #[.agg fileZ.toArray, .int .i64 ((i + 3 : Nat) : Int), .int .i64 ((103 : Nat) : Int)]) := by
     unfold PaPost at hpost
     rw [hp] at hpost
     exact hpost
    subst he
    have H1 := H.step hF (by simp)
    clear H hF hpost hp
    have H := H1
    clear H1
    go_wp2_with (first | (revert H; refine x_g ?_; (first | (have hh := g5; clear hh; intro g6 w1 hg hf H) | (have hh := g4; clear hh; intro g5 w1 hg hf H) | (have hh := g3; clear hh; intro g4 w1 hg hf H) | (have hh := g2; clear hh; intro g3 w1 hg hf H) | (have hh := g1; clear hh; intro g2 w1 hg hf H) | (have hh := g0; clear hh; intro g1 w1 hg hf H) | intro g0 w1 hg hf H); clear hf) | (revert H; refine x_s (he := fun H K hK => c_st8 H rfl rfl rfl (h := hK)) ?_; intro w1 hf H; clear hf))
    (refine x_c H (itoa_small _ (i - 1) (by omega) HNM (HT.out.fr H.fr)) ?_; clear H; rintro e w1 ⟨rfl, hF⟩ H; clear hF)
    go_wp2_with (first | refine x_e (ev_strCat (s := headM i) (r := dgM (i - 1)) (q := headM i ++ dgM (i - 1)) rfl rfl rfl (hid rfl) (by simp only [List.length_append, List.length_cons, List.length_nil, bodyM_len, headM_len, hM_len, dgM_len, tM_len, uM_len]; omega)) ?_ | refine x_e (ev_strCat (s := headM i ++ dgM (i - 1)) (r := [10]) (q := headM i ++ (dgM (i - 1) ++ [10])) rfl rfl rfl (hid (by simp)) (by simp only [List.length_append, List.length_cons, List.length_nil, bodyM_len, headM_len, hM_len, dgM_len, tM_len, uM_len]; omega)) ?_ | refine x_e (ev_strCat (s := headM i ++ (dgM (i - 1) ++ [10])) (r := bodyM i) (q := tM i (i - 1)) rfl rfl rfl (hid (tM_eq i (i - 1))) (by simp only [List.length_append, List.length_cons, List.length_nil, bodyM_len, headM_len, hM_len, dgM_len, tM_len, uM_len]; omega)) ?_ | (revert H; intro H; refine wl_rw rfl (fun K hK => c_sbM H rfl (s := tM i (i - 1)) rfl Tryz.underlying22 Tryz.underlying5 12 (fun g w1 cap hf H1 => hK _ _ ?_)); clear hK K; clear H; have H := H1; clear H1; clear hf; (simp only [nrm, ↓reduceIte, Nat.reduceAdd])))
    have hp := HS.out.2.1
    refine Calls.mono (parseM_any _ (tM i (i - 1)) (by simp only [List.length_append, List.length_cons, List.length_nil, bodyM_len, headM_len, hM_len, dgM_len, tM_len, uM_len]; omega) (H.ob 12).rd (HT.out.fr H.fr) (HLh.out.fr H.fr (by simp) (by simp)) (fun h m n L e => by rw [hp] at e; cases e)) ?_
    rintro e w1 ⟨hF, hpost⟩
    have he : e = .returned (.tuple #[.agg fileZ.toArray, .int .i64 ((i + 2 : Nat) : Int), .int .i64 ((103 : Nat) : Int)]) := by
     unfold PaPost at hpost
     rw [hp] at hpost
     exact hpost
    subst he
    have H1 := H.step hF (by simp)
    clear H hF hpost hp
    have H := H1
    clear H1
    go_wp2_with (first | (revert H; refine x_g ?_; (first | (have hh := g5; clear hh; intro g6 w1 hg hf H) | (have hh := g4; clear hh; intro g5 w1 hg hf H) | (have hh := g3; clear hh; intro g4 w1 hg hf H) | (have hh := g2; clear hh; intro g3 w1 hg hf H) | (have hh := g1; clear hh; intro g2 w1 hg hf H) | (have hh := g0; clear hh; intro g1 w1 hg hf H) | intro g0 w1 hg hf H); clear hf) | (revert H; refine x_s (he := fun H K hK => c_st8 H rfl rfl rfl (h := hK)) ?_; intro w1 hf H; clear hf))
    (refine x_c H (itoa_small _ (i + 1) (by omega) HNP (HT.out.fr H.fr)) ?_; clear H; rintro e w1 ⟨rfl, hF⟩ H; clear hF)
    go_wp2_with (first | refine x_e (ev_strCat (s := headM i) (r := dgM (i + 1)) (q := headM i ++ dgM (i + 1)) rfl rfl rfl (hid rfl) (by simp only [List.length_append, List.length_cons, List.length_nil, bodyM_len, headM_len, hM_len, dgM_len, tM_len, uM_len]; omega)) ?_ | refine x_e (ev_strCat (s := headM i ++ dgM (i + 1)) (r := [10]) (q := headM i ++ (dgM (i + 1) ++ [10])) rfl rfl rfl (hid (by simp)) (by simp only [List.length_append, List.length_cons, List.length_nil, bodyM_len, headM_len, hM_len, dgM_len, tM_len, uM_len]; omega)) ?_ | refine x_e (ev_strCat (s := headM i ++ (dgM (i + 1) ++ [10])) (r := bodyM i) (q := tM i (i + 1)) rfl rfl rfl (hid (tM_eq i (i + 1))) (by simp only [List.length_append, List.length_cons, List.length_nil, bodyM_len, headM_len, hM_len, dgM_len, tM_len, uM_len]; omega)) ?_ | refine x_e (ev_strCat (s := tM i (i + 1)) (r := [49, 32, 49, 10]) (q := uM i 49) rfl rfl rfl (hid (uM_eq i 49)) (by simp only [List.length_append, List.length_cons, List.length_nil, bodyM_len, headM_len, hM_len, dgM_len, tM_len, uM_len]; omega)) ?_ | (revert H; intro H; refine wl_rw rfl (fun K hK => c_sbM H rfl (s := uM i 49) rfl Tryz.underlying22 Tryz.underlying5 13 (fun g w1 cap hf H1 => hK _ _ ?_)); clear hK K; clear H; have H := H1; clear H1; clear hf; (simp only [nrm, ↓reduceIte, Nat.reduceAdd])))
    have hp := HU.out.1
    refine Calls.mono (parseM_any _ (uM i 49) (by simp only [List.length_append, List.length_cons, List.length_nil, bodyM_len, headM_len, hM_len, dgM_len, tM_len, uM_len]; omega) (H.ob 13).rd (HT.out.fr H.fr) (HLh.out.fr H.fr (by simp) (by simp)) (fun h m n L e => by rw [hp] at e; cases e)) ?_
    rintro e w1 ⟨hF, hpost⟩
    have he : e = .returned (.tuple #[.agg fileZ.toArray, .int .i64 ((i + 3 : Nat) : Int), .int .i64 ((102 : Nat) : Int)]) := by
     unfold PaPost at hpost
     rw [hp] at hpost
     exact hpost
    subst he
    have H1 := H.step hF (by simp)
    clear H hF hpost hp
    have H := H1
    clear H1
    go_wp2_with (first | (revert H; refine x_g ?_; (first | (have hh := g5; clear hh; intro g6 w1 hg hf H) | (have hh := g4; clear hh; intro g5 w1 hg hf H) | (have hh := g3; clear hh; intro g4 w1 hg hf H) | (have hh := g2; clear hh; intro g3 w1 hg hf H) | (have hh := g1; clear hh; intro g2 w1 hg hf H) | (have hh := g0; clear hh; intro g1 w1 hg hf H) | intro g0 w1 hg hf H); clear hf) | (revert H; refine x_s (he := fun H K hK => c_st8 H rfl rfl rfl (h := hK)) ?_; intro w1 hf H; clear hf))
    (refine x_c H (itoa_small _ (i + 1) (by omega) HNP (HT.out.fr H.fr)) ?_; clear H; rintro e w1 ⟨rfl, hF⟩ H; clear hF)
    go_wp2_with (first | refine x_e (ev_strCat (s := headM i) (r := dgM (i + 1)) (q := headM i ++ dgM (i + 1)) rfl rfl rfl (hid rfl) (by simp only [List.length_append, List.length_cons, List.length_nil, bodyM_len, headM_len, hM_len, dgM_len, tM_len, uM_len]; omega)) ?_ | refine x_e (ev_strCat (s := headM i ++ dgM (i + 1)) (r := [10]) (q := headM i ++ (dgM (i + 1) ++ [10])) rfl rfl rfl (hid (by simp)) (by simp only [List.length_append, List.length_cons, List.length_nil, bodyM_len, headM_len, hM_len, dgM_len, tM_len, uM_len]; omega)) ?_ | refine x_e (ev_strCat (s := headM i ++ (dgM (i + 1) ++ [10])) (r := bodyM i) (q := tM i (i + 1)) rfl rfl rfl (hid (tM_eq i (i + 1))) (by simp only [List.length_append, List.length_cons, List.length_nil, bodyM_len, headM_len, hM_len, dgM_len, tM_len, uM_len]; omega)) ?_ | refine x_e (ev_strCat (s := tM i (i + 1)) (r := [49, 32, 50, 10]) (q := uM i 50) rfl rfl rfl (hid (uM_eq i 50)) (by simp only [List.length_append, List.length_cons, List.length_nil, bodyM_len, headM_len, hM_len, dgM_len, tM_len, uM_len]; omega)) ?_ | (revert H; intro H; refine wl_rw rfl (fun K hK => c_sbM H rfl (s := uM i 50) rfl Tryz.underlying22 Tryz.underlying5 14 (fun g w1 cap hf H1 => hK _ _ ?_)); clear hK K; clear H; have H := H1; clear H1; clear hf; (simp only [nrm, ↓reduceIte, Nat.reduceAdd])))
    have hp := HU.out.2
    refine Calls.mono (parseM_any _ (uM i 50) (by simp only [List.length_append, List.length_cons, List.length_nil, bodyM_len, headM_len, hM_len, dgM_len, tM_len, uM_len]; omega) (H.ob 14).rd (HT.out.fr H.fr) (HLh.out.fr H.fr (by simp) (by simp)) (fun h m n L e => by rw [hp] at e; cases e)) ?_
    rintro e w1 ⟨hF, hpost⟩
    have he : e = .returned (.tuple #[.agg fileZ.toArray, .int .i64 ((i + 3 : Nat) : Int), .int .i64 ((102 : Nat) : Int)]) := by
     unfold PaPost at hpost
     rw [hp] at hpost
     exact hpost
    subst he
    have H1 := H.step hF (by simp)
    clear H hF hpost hp
    have H := H1
    clear H1
    go_wp2_with (first | (revert H; refine x_g ?_; (first | (have hh := g5; clear hh; intro g6 w1 hg hf H) | (have hh := g4; clear hh; intro g5 w1 hg hf H) | (have hh := g3; clear hh; intro g4 w1 hg hf H) | (have hh := g2; clear hh; intro g3 w1 hg hf H) | (have hh := g1; clear hh; intro g2 w1 hg hf H) | (have hh := g0; clear hh; intro g1 w1 hg hf H) | intro g0 w1 hg hf H); clear hf) | (revert H; refine x_s (he := fun H K hK => c_st8 H rfl rfl rfl (h := hK)) ?_; intro w1 hf H; clear hf))
    (refine x_c H (itoa_small _ i (by omega) (hid rfl) (HT.out.fr H.fr)) ?_; clear H; rintro e w1 ⟨rfl, hF⟩ H; clear hF)
    go_wp2_with (first | refine x_e (ev_strCat (s := headM i) (r := dgM i) (q := headM i ++ dgM i) rfl rfl rfl (hid rfl) (by simp only [List.length_append, List.length_cons, List.length_nil, bodyM_len, headM_len, hM_len, dgM_len, tM_len, uM_len]; omega)) ?_ | refine x_e (ev_strCat (s := headM i ++ dgM i) (r := [10]) (q := headM i ++ (dgM i ++ [10])) rfl rfl rfl (hid (by simp)) (by simp only [List.length_append, List.length_cons, List.length_nil, bodyM_len, headM_len, hM_len, dgM_len, tM_len, uM_len]; omega)) ?_ | refine x_e (ev_strCat (s := headM i ++ (dgM i ++ [10])) (r := bodyM i) (q := tM i i) rfl rfl rfl (hid (tM_eq i i)) (by simp only [List.length_append, List.length_cons, List.length_nil, bodyM_len, headM_len, hM_len, dgM_len, tM_len, uM_len]; omega)) ?_ | (revert H; intro H; refine wl_rw rfl (fun K hK => c_sbM H rfl (s := tM i i) rfl Tryz.underlying22 Tryz.underlying5 15 (fun g w1 cap hf H1 => hK _ _ ?_)); clear hK K; clear H; have H := H1; clear H1; clear hf; (simp only [nrm, ↓reduceIte, Nat.reduceAdd])))
    obtain ⟨hd, L, hm, hlen, h20⟩ := HS.out.2.2.2.2
    have HM := hid hm
    refine Calls.mono (parseM_any _ (tM i i) (by simp only [List.length_append, List.length_cons, List.length_nil, bodyM_len, headM_len, hM_len, dgM_len, tM_len, uM_len]; omega) (H.ob 15).rd (HT.out.fr H.fr) (HLh.out.fr H.fr (by simp) (by simp)) (fun h m n L e => by rw [hm] at e; cases e; exact h20)) ?_
    rintro e w1 ⟨hF, hpost⟩
    unfold PaPost at hpost
    rw [hm] at hpost
    obtain ⟨v1, v2, v3, B, rfl, hM, hB⟩ := hpost
    obtain ⟨S1, S2, S3, H1⟩ := H.mat 2 3 4 hF hM hB
    clear H hF hM hB hm
    have H := H1
    clear H1
    simp only [List.length_map, List.length_range, hlen] at H
    clear hlen h20
    obtain ⟨q1, d1, rfl, _⟩ := (H.rowo 2).form
    obtain ⟨q2, d2, rfl, _⟩ := (H.rowo 3).form
    obtain ⟨q3, d3, rfl, _⟩ := (H.rowo 4).form
    go_wp2_with (first | refine x_q H ?_ | (revert H; refine x_g ?_; (first | (have hh := g5; clear hh; intro g6 w1 hg hf H) | (have hh := g4; clear hh; intro g5 w1 hg hf H) | (have hh := g3; clear hh; intro g4 w1 hg hf H) | (have hh := g2; clear hh; intro g3 w1 hg hf H) | (have hh := g1; clear hh; intro g2 w1 hg hf H) | (have hh := g0; clear hh; intro g1 w1 hg hf H) | intro g0 w1 hg hf H); clear hf) | (revert H; refine x_s (he := fun H K hK => c_st8 H rfl rfl rfl (h := hK)) ?_; intro w1 hf H; clear hf))
    (refine x_c H (awakeM_any _ (HT.out.fr H.fr) (HLh.out.fr H.fr (by simp) (by simp))) ?_; clear H; rintro e w1 ⟨rfl, hF⟩ H; clear hF)
    go_wp2_with fail
    go_ret
    exact ⟨rfl, H.fr⟩
end Go.Proofs.YtomggcdmhflboaaGreatDoor
