/-
  The laws' strings of digits.
-/
import Derived.Test.YthbeeeclgbpopaaGreatDoorFa8
namespace Go.Proofs.YthbeeeclgbpopaaGreatDoor
open Go.RowKit
set_option linter.unusedSimpArgs false
set_option linter.unusedVariables false
set_option maxHeartbeats 8000000
set_option maxRecDepth 100000

theorem bytesV_ap (s t : List UInt8) : bytesV s ++ bytesV t = bytesV (s ++ t) := by simp [bytesV]
theorem bytesV_b (x : UInt8) : [Value.int .u8 (x.toNat : Int)] = bytesV [x] := by simp [bytesV]
theorem bytesV_d {r : Nat} (h : r < 10) : [Value.int .u8 (48 + (r : Int))] = bytesV [UInt8.ofNat (48 + r)] := by
  rw [← bytesV_b, UInt8.toNat_ofNat_of_lt' (show 48 + r < 256 by omega)]
  simp
theorem dig_r {r : Nat} (h : r < 10) : dig (UInt8.ofNat (48 + r)) = true := by
  unfold dig
  rw [UInt8.toNat_ofNat_of_lt' (show 48 + r < 256 by omega)]
  simp; omega
theorem place10 (w : World) (a : Int) (ha : -9223372036854775808 ≤ a ∧ a ≤ 9223372036854775807) :
    Calls Tryz.prog 18 #[.int .i64 a, .int .i64 10] w fun e w' => ∃ k : Nat, e = .returned (.int .i64 (k : Int)) ∧ k < 10 ∧ Fr [] w w' := by
  have H := Hp.start [] w
  go_enter Tryz.func18, Tryz.ntmps18
  go_wp2_with (first | refine x_q H ?_ | refine x_cm (fun h => ?_) (fun h => ?_) | (revert H; (first | (refine x_g ?_; intro g w1 hg hf H) | (refine x_s ?_; intro w1 hf H)); (first | replace hf := hf.kp | clear hf)))
  go_ret
  exact ⟨(a % 18446744073709551616 % 10).toNat, by rw [Int.toNat_of_nonneg (by omega)]; rfl, by omega, H.fr⟩
/-- A slice of ints that are laid. -/
def LI (w : World) (b off : Nat) (xs : List Int) : Prop := ∀ i x, xs[i]? = some x → w.cell? ⟨b, off + i, none⟩ = some (.int .i64 x) ∧ -9223372036854775808 ≤ x ∧ x ≤ 9223372036854775807
set_option maxHeartbeats 16000000 in
theorem plain_any {w : World} {b off c : Nat} {xs : List Int} (hl : xs.length ≤ 25) (hx : LI w b off xs) :
    Calls Tryz.prog 21 #[.slice (some ⟨b, off, none⟩) xs.length c] w fun e w' => ∃ s, e = .returned (strV s) ∧ Fr [] w w' ∧ s.length = xs.length ∧ s.all dig = true := by
  have HX := hid hx
  clear hx
  have H := Hp.start [] w
  go_enter Tryz.func21, Tryz.ntmps21
  go_wp2_with (first | refine x_q H ?_ | refine x_cm (fun h => ?_) (fun h => ?_) | (revert H; (first | (refine x_g ?_; intro g w1 hg hf H) | (refine x_s ?_; intro w1 hf H)); (first | replace hf := hf.kp | clear hf)))
  have H := H.pushObj 1 (RowAt.nil (e := 5) (sz := 1) _) RowAt.firm (by intro x hx; cases hx) (by intro x hx; cases hx)
  go_loopw [3, 4] (fun s3 s4 wr => ∃ (i : Nat) (out : List UInt8) (pv : Value) (S1 : List Nat), i ≤ xs.length ∧ s3 = pv ∧ s4 = .int .i64 (i : Int) ∧ out.length = i ∧ Hid (out.all dig = true) ∧ Hp [] w wr [.obj 1 S1 (RowAt 5 1 pv i (bytesV out) S1)]) (fun _ v _ => (xs.length - intOf v).toNat)
  case atStart => exact ⟨0, [], _, _, Nat.zero_le _, rfl, rfl, rfl, hid rfl, H⟩
  case round =>
    clear H
    obtain ⟨i, out, pv, S1, hi, hpv, rfl, hol, HO, H⟩ := hrel
    obtain ⟨p5, c5, he, _, hc5, _⟩ := (H.rowo 1).form
    unfold maxLen at hc5
    subst he
    subst hpv
    by_cases hin : i < xs.length
    · obtain ⟨x, hx⟩ : ∃ x, xs[i]? = some x := ⟨_, List.getElem?_eq_getElem hin⟩
      obtain ⟨hc, hxr⟩ := HX.out i x hx
      have HC := H.fr.cell hc (by simp)
      clear hx hc
      go_wp2_with (first | refine x_q H ?_ | refine x_cm (fun h => ?_) (fun h => ?_) | refine x_e (c_ldc rfl rfl HC) ?_ | (revert H; (first | (refine x_g ?_; intro g w1 hg hf H) | (refine x_s ?_; intro w1 hf H)); (first | replace hf := hf.kp | clear hf)))
      (refine x_c H (place10 _ x hxr) ?_; clear H; rintro e w1 ⟨r, rfl, hr, hF⟩ H; replace hF := hF.kp; skip)
      have Hln : Hid ((out ++ [UInt8.ofNat (48 + r)]).length = i + 1) := hid (by rw [List.length_append, hol]; rfl)
      have HO2 : Hid ((out ++ [UInt8.ofNat (48 + r)]).all dig = true) := hid (by rw [List.all_append, HO.out, List.all_cons, dig_r hr]; rfl)
      clear HO
      go_wp2_with (first | refine x_q H ?_ | refine x_cm (fun h => ?_) (fun h => ?_) | (refine is_blt (b := .append) rfl ?_; go_loud (refine wl_rw rfl (fun K hK => c_aprS H rfl rfl rfl 1 (H.rd (b := g) (off := 0) (vs := [.int .u8 (48 + (r : Int))]) List.prefix_rfl) rfl (by intro u hu; simp only [List.mem_singleton] at hu; subst hu; rfl) (by omega) (by unfold maxLen; omega) (fun p1 c1 w1 S' hf H1 => hK _ _ ?_))); (clear hK K); (clear H; have H := H1; clear H1; (try dsimp only at H); (first | replace hf := hf.kp | clear hf)); (simp only [nrm, ↓reduceIte, Nat.reduceAdd])) | (revert H; (first | (refine x_g ?_; intro g w1 hg hf H) | (refine x_s ?_; intro w1 hf H)); (first | replace hf := hf.kp | clear hf)))
      rw [bytesV_d hr, bytesV_ap] at H
      go_roundw
      case rel => exact ⟨i + 1, out ++ [UInt8.ofNat (48 + r)], _, _, by omega, rfl, by first | rfl | go_num, Hln.out, HO2, by (refine Hp.arr H ?_; repeat (first | exact Pm.nil _ | (apply Pm.cons; · (repeat first | exact Rm.here _ | apply Rm.there))))⟩
      case measure => (simp [intOf]; try omega)
    · have hli : i = xs.length := by omega
      have HS := hid (show out.length = xs.length by omega)
      subst hol
      go_wp2_with (first | refine x_q H ?_ | refine x_cm (fun h => ?_) (fun h => ?_) | refine x_e (c_bs rfl rfl (H.rowo 1).rd) ?_ | (revert H; (first | (refine x_g ?_; intro g w1 hg hf H) | (refine x_s ?_; intro w1 hf H)); (first | replace hf := hf.kp | clear hf)))
      go_ret
      exact ⟨_, rfl, H.fr, HS.out, HO.out⟩
theorem zero_any (w : World) {b : Nat} {k : Int} (hb : b < 18446744073709551616) (hk : Hid (kindF b = k)) :
    Calls Tryz.prog 57 #[.int .u64 (b : Int)] w fun r w' => r = .returned (.bool (decide (k = 0))) ∧ Fr [] w w' := by
  have H := Hp.start [] w
  by_cases h : k = 0
  · subst h
    go_enter Tryz.func57, Tryz.ntmps57
    go_wp2_with (first | refine x_q H ?_ | refine x_cm (fun h => ?_) (fun h => ?_) | refine x_l H ?_ | refine x_e (ev_dyad rfl rfl rfl) ?_ | (revert H; refine x_sF ?_; intro w1 hf H hk; clear hf; change Kp _ _ at hk) | (revert H; (first | (refine x_g ?_; intro g w1 hg hf H) | (refine x_s ?_; intro w1 hf H)); (first | replace hf := hf.kp | clear hf)))
    (refine x_c H (kindI_any _ hb hk) ?_; clear H; rintro e w1 ⟨rfl, hF⟩ H; replace hF := hF.kp; skip)
    go_wp2_with (first | refine x_q H ?_ | refine x_cm (fun h => ?_) (fun h => ?_) | refine x_l H ?_ | refine x_e (ev_dyad rfl rfl rfl) ?_ | (revert H; refine x_sF ?_; intro w1 hf H hk; clear hf; change Kp _ _ at hk) | (revert H; (first | (refine x_g ?_; intro g w1 hg hf H) | (refine x_s ?_; intro w1 hf H)); (first | replace hf := hf.kp | clear hf)))
    go_ret
    exact ⟨rfl, H.fr⟩
  · rw [decide_eq_false h]
    go_enter Tryz.func57, Tryz.ntmps57
    go_wp2_with (first | refine x_q H ?_ | refine x_cm (fun h => ?_) (fun h => ?_) | refine x_l H ?_ | refine x_e (ev_dyad rfl rfl rfl) ?_ | (revert H; refine x_sF ?_; intro w1 hf H hk; clear hf; change Kp _ _ at hk) | (revert H; (first | (refine x_g ?_; intro g w1 hg hf H) | (refine x_s ?_; intro w1 hf H)); (first | replace hf := hf.kp | clear hf)))
    (refine x_c H (kindI_any _ hb hk) ?_; clear H; rintro e w1 ⟨rfl, hF⟩ H; replace hF := hF.kp; skip)
    go_wp2_with (first | refine x_q H ?_ | refine x_cm (fun h => ?_) (fun h => ?_) | refine x_l H ?_ | refine x_e (ev_dyad rfl rfl rfl) ?_ | (revert H; refine x_sF ?_; intro w1 hf H hk; clear hf; change Kp _ _ at hk) | (revert H; (first | (refine x_g ?_; intro g w1 hg hf H) | (refine x_s ?_; intro w1 hf H)); (first | replace hf := hf.kp | clear hf)))
    go_ret
    exact ⟨rfl, H.fr⟩
theorem kind_pos {b : Nat} (h : b < 9218868437227405312) : kindF b = if b = 0 then 0 else 1 := by
  unfold kindF
  rw [if_neg (by omega)]
  by_cases h0 : b = 0
  · subst h0; rfl
  · rw [if_neg (by omega), if_neg h0]
theorem up_any2 (w : World) {b : Nat} (hb : b < 9218868437227405312) :
    Calls Tryz.prog 23 #[.int .u64 (b : Int)] w fun r w' => r = .returned (.int .u64 ((b + 1 : Nat) : Int)) ∧ Fr [] w w' := by
  have hk := kind_pos hb
  have H := Hp.start [] w
  by_cases h0 : b = 0
  · subst h0
    have HK : Hid (kindF 0 = 0) := hid rfl
    go_enter Tryz.func23, Tryz.ntmps23
    go_wp2_with (first | refine x_q H ?_ | refine x_cm (fun h => ?_) (fun h => ?_) | refine x_l H ?_ | refine x_e (ev_dyad rfl rfl rfl) ?_ | (revert H; refine x_sF ?_; intro w1 hf H hk; clear hf; change Kp _ _ at hk) | (revert H; (first | (refine x_g ?_; intro g w1 hg hf H) | (refine x_s ?_; intro w1 hf H)); (first | replace hf := hf.kp | clear hf)))
    (refine x_c H (nan1_any (b := 0) (by decide) (H.cell (p := 0) rfl)) ?_; clear H; rintro e w1 ⟨rfl, hF⟩ H; replace hF := hF.kp; rw [HK.out])
    go_wp2_with (first | refine x_q H ?_ | refine x_cm (fun h => ?_) (fun h => ?_) | refine x_l H ?_ | refine x_e (ev_dyad rfl rfl rfl) ?_ | (revert H; refine x_sF ?_; intro w1 hf H hk; clear hf; change Kp _ _ at hk) | (revert H; (first | (refine x_g ?_; intro g w1 hg hf H) | (refine x_s ?_; intro w1 hf H)); (first | replace hf := hf.kp | clear hf)))
    (refine x_c H (zero_any _ (b := 0) (by decide) HK) ?_; clear H; rintro e w1 ⟨rfl, hF⟩ H; replace hF := hF.kp; skip)
    go_wp2_with (first | refine x_q H ?_ | refine x_cm (fun h => ?_) (fun h => ?_) | refine x_l H ?_ | refine x_e (ev_dyad rfl rfl rfl) ?_ | (revert H; refine x_sF ?_; intro w1 hf H hk; clear hf; change Kp _ _ at hk) | (revert H; (first | (refine x_g ?_; intro g w1 hg hf H) | (refine x_s ?_; intro w1 hf H)); (first | replace hf := hf.kp | clear hf)))
    go_ret
    exact ⟨rfl, H.fr⟩
  · have HK : Hid (kindF b = 1) := hid (by rw [hk, if_neg h0])
    have HN : Hid (decide (9223372036854775808 ≤ b) = false) := hid (decide_eq_false (by omega))
    have HC : Hid (((b : Int) + 1) = ((b + 1 : Nat) : Int)) := hid rfl
    clear hk
    go_enter Tryz.func23, Tryz.ntmps23
    go_wp2_with (first | refine x_q H ?_ | refine x_cm (fun h => ?_) (fun h => ?_) | refine x_l H ?_ | refine x_e (ev_dyad rfl rfl rfl) ?_ | (revert H; refine x_sF ?_; intro w1 hf H hk; clear hf; change Kp _ _ at hk) | (revert H; (first | (refine x_g ?_; intro g w1 hg hf H) | (refine x_s ?_; intro w1 hf H)); (first | replace hf := hf.kp | clear hf)))
    (refine x_c H (nan1_any (b := b) (by omega) (H.cell (p := 0) rfl)) ?_; clear H; rintro e w1 ⟨rfl, hF⟩ H; replace hF := hF.kp; rw [HK.out])
    go_wp2_with (first | refine x_q H ?_ | refine x_cm (fun h => ?_) (fun h => ?_) | refine x_l H ?_ | refine x_e (ev_dyad rfl rfl rfl) ?_ | (revert H; refine x_sF ?_; intro w1 hf H hk; clear hf; change Kp _ _ at hk) | (revert H; (first | (refine x_g ?_; intro g w1 hg hf H) | (refine x_s ?_; intro w1 hf H)); (first | replace hf := hf.kp | clear hf)))
    (refine x_c H (zero_any _ (b := b) (by omega) HK) ?_; clear H; rintro e w1 ⟨rfl, hF⟩ H; replace hF := hF.kp; skip)
    go_wp2_with (first | refine x_q H ?_ | refine x_cm (fun h => ?_) (fun h => ?_) | refine x_l H ?_ | refine x_e (ev_dyad rfl rfl rfl) ?_ | (revert H; refine x_sF ?_; intro w1 hf H hk; clear hf; change Kp _ _ at hk) | (revert H; (first | (refine x_g ?_; intro g w1 hg hf H) | (refine x_s ?_; intro w1 hf H)); (first | replace hf := hf.kp | clear hf)))
    (refine x_c H (negative_any _ b (by omega)) ?_; clear H; rintro e w1 ⟨rfl, hF⟩ H; replace hF := hF.kp; rw [HN.out])
    go_wp2_with (first | refine x_q H ?_ | refine x_cm (fun h => ?_) (fun h => ?_) | refine x_l H ?_ | refine x_e (ev_dyad rfl rfl rfl) ?_ | (revert H; refine x_sF ?_; intro w1 hf H hk; clear hf; change Kp _ _ at hk) | (revert H; (first | (refine x_g ?_; intro g w1 hg hf H) | (refine x_s ?_; intro w1 hf H)); (first | replace hf := hf.kp | clear hf)))
    go_ret
    exact ⟨rfl, H.fr⟩
theorem encl_dv (N : Nat) (x : Int) : (dval false 2 N x = dval false 1 N x ∨ dval false 2 N x = dval false 1 N x + 1) ∧ (dval false 0 N x = dval false 1 N x ∨ dval false 0 N x = dval false 2 N x) ∧ dval false 1 N x < 9218868437227405312 ∧ dval false 2 N x ≤ 9218868437227405312 := by
  unfold dval
  by_cases h : N = 0
  · rw [if_pos h, if_pos h, if_pos h]
    exact ⟨.inl rfl, .inl rfl, by decide, by decide⟩
  · rw [if_neg h, if_neg h, if_neg h]
    unfold dvF
    exact encl 0 (Nat.mul_pos (Nat.pos_of_ne_zero h) (ten_pos _)) (ten_pos _)
open Go.ChangeShapes Go.WideShapes Go.Deep in
theorem arg_ints {H : Type} {enc : TypeId × Value → H} {W : World} {base : Nat} {d : DataW H} {p : List MemPlace} (v : Value) (k : DataW.Trod enc Tryz.prog W 0 (fun _ => true) true 38 v d p) (o : Value.okWide Tryz.prog W .any base 38 v) : ∃ l : List Int, SArg W v l.length (l.map fun x => .int .i64 x) ∧ ∀ x ∈ l, -9223372036854775808 ≤ x ∧ x ≤ 9223372036854775807 := by
  obtain ⟨n, hn⟩ := k
  obtain ⟨a, l, c, rfl⟩ := okWide_slice Tryz.underlying38 o
  obtain ⟨v', s, h1, h2, h3⟩ := open_all (fun x : Int => [Value.int .i64 x]) (fun x => -9223372036854775808 ≤ x ∧ x ≤ 9223372036854775807) 1 Tryz.underlying38 (by kernel_rfl) (fun n es y hl hy => by
    obtain ⟨z, rfl, _, hw⟩ := DataW.trod_int Tryz.underlying3 hy
    refine ⟨z, rfl, ?_⟩
    simp [Lit.wf, IntKind.min, IntKind.max, IntKind.bits, IntKind.signed] at hw
    omega) hn
  simp only [Value.cells, List.cons.injEq, and_true] at h1
  subst h1
  have e : s.flatMap (fun x : Int => [Value.int .i64 x]) = s.map fun x => .int .i64 x := by rw [List.map_eq_flatMap]
  rw [e] at h2
  exact ⟨s, h2, h3⟩
end Go.Proofs.YthbeeeclgbpopaaGreatDoor
