/-
  The integers: the square root.
-/
import Derived.Test.YtpmebjhlgdhchaaDoorIw29
import Derived.Test.YtpmebjhlgdhchaaDoorIw34
import Derived.Test.YtpmebjhlgdhchaaDoorIw30
namespace Go.Proofs.YtpmebjhlgdhchaaDoor
open Go.RowKit
set_option linter.unusedSimpArgs false
set_option linter.unusedVariables false
set_option maxHeartbeats 4000000
set_option maxRecDepth 100000
theorem root_len {a k n : Nat} (hn : (digs a).length = n) (hn1 : 1 ≤ n) (hk : k ≤ 2 ^ ((bl a + 1) / 2)) : (digs k).length ≤ n + 1 := by
  apply digs_len_of
  have h1 : bl a ≤ 32 * n := bl_le (by have := digs_lt a; rwa [hn, powB] at this)
  have h2 : 2 ^ ((bl a + 1) / 2) ≤ 2 ^ (32 * n) := Nat.pow_le_pow_right (by decide) (by omega)
  have h3 : 2 ^ (32 * n) < 4294967296 ^ (n + 1) := by
    rw [powB]; exact Nat.pow_lt_pow_right (by decide) (by omega)
  exact Nat.lt_of_le_of_lt (Nat.le_trans hk h2) h3
theorem root_bl {a n : Nat} (hn : (digs a).length = n) : bl a ≤ 32 * n := bl_le (by have := digs_lt a; rwa [hn, powB] at this)
set_option maxHeartbeats 8000000 in
theorem root_any {w : World} {p : Option Addr} {n c : Nat} (A r : Nat) (hn : (digs A).length = n) (hn0 : n ≤ 400000) (hr : IsRoot A r) (h : LR w p c (digs A)) :
    Calls Tryd.prog 67 #[.slice p n c] w fun e w' => ∃ p1 c1, e = .returned (.slice p1 (digs r).length c1) ∧ Fr [] w w' ∧ LR w' p1 c1 (digs r) := by
  have Hh := hid h
  have Hn := hid hn
  have HR := hid hr
  have H := Hp.start [] w
  have hbl := root_bl hn
  by_cases h0 : n ≤ 0
  · have e : A = 0 := digs_zero_len (by omega)
    have e2 : r = 0 := by
      have h1 := hr.1
      rcases Nat.eq_zero_or_pos r with h2 | h2
      · exact h2
      · have : 1 * 1 ≤ r * r := Nat.mul_le_mul h2 h2
        omega
    have E2 := hid e2
    clear h hn hr e e2
    go_enter Tryd.func67, Tryd.ntmps67
    go_wp2_with (first | refine x_q H ?_ | refine x_cm (fun h => ?_) (fun h => ?_) | (revert H; (first | (refine x_g ?_; intro g w1 hg hf H) | (refine x_s ?_; intro w1 hf H)); (try (have hfk := hid hf; clear hf))))
    go_ret
    exact ⟨none, 0, by rw [E2.out, digs_zero]; rfl, H.fr, by rw [E2.out, digs_zero]; exact LR.zero _⟩
  · have hA0 : A ≠ 0 := fun e => by rw [e, digs_zero] at hn; simp at hn; omega
    have hr1 : 1 ≤ r := root_le hr (by omega)
    have hn1 : 1 ≤ n := by omega
    have hst := hid (root_start hr)
    have hlen0 := root_len hn hn1 (Nat.le_refl _)
    clear h hn hr h0
    have HA0 := hid hA0
    clear hA0
    go_enter Tryd.func67, Tryd.ntmps67
    go_wp2_with (first | refine x_q H ?_ | refine x_cm (fun h => ?_) (fun h => ?_) | (refine is_buildSlice rfl ?_; refine wl_rw rfl (fun K hK => c_sN H rfl (by repeat first | exact .nil _ | apply Parts.tmp (by rfl) (by rfl) | apply Parts.con (by rfl)) rfl (by intro c hc; simp only [List.mem_cons, List.not_mem_nil, or_false] at hc; (try (rcases hc with rfl | rfl | rfl | rfl | rfl | rfl | rfl | rfl <;> rfl))) (by decide) (by decide) (fun g w1 hg hf H1 => hK _ _ ?_)); (clear hK K); (clear H; have H := H1; clear H1; (try dsimp only at H); (try (have hfk := hid hf; clear hf))); (simp only [nrm, ↓reduceIte, Nat.reduceAdd])) | (revert H; (first | (refine x_g ?_; intro g w1 hg hf H) | (refine x_s ?_; intro w1 hf H)); (try (have hfk := hid hf; clear hf))))
    have HO := hid (LR.of_blk (l := [1]) (c := 1) (pad := []) (by have := H.at g; simpa [limbs] using this) (Lim.cons (by decide) Lim.nil) (by simp) (by unfold maxLen; omega))
    (refine x_c H (length_any A Hn.out (by omega) (Hh.out.fr H.fr)) ?_; clear H; rintro e w1 ⟨rfl, hF⟩ H; replace HO := hid (HO.out.fr hF))
    go_wp2_with (first | refine x_q H ?_ | refine x_cm (fun h => ?_) (fun h => ?_) | (revert H; (first | (refine x_g ?_; intro g w1 hg hf H) | (refine x_s ?_; intro w1 hf H)); (try (have hfk := hid hf; clear hf))))
    rw [show ((bl A : Int) + 1) / 2 = (((bl A + 1) / 2 : Nat) : Int) by omega]
    (refine x_c H (up_any [1] ((bl A + 1) / 2) rfl (by simp) (by omega) HO.out) ?_; clear H; rintro e w1 ⟨p1, c1, rfl, hF, hL⟩ H; have HL1 := hid hL; clear hL HO)
    rw [val_one, Nat.one_mul] at HL1 ⊢
    go_wp2_with (first | refine x_q H ?_ | refine x_cm (fun h => ?_) (fun h => ?_) | (revert H; (first | (refine x_g ?_; intro g w1 hg hf H) | (refine x_s ?_; intro w1 hf H)); (try (have hfk := hid hf; clear hf))))
    go_loopg [3] (2 ^ ((bl A + 1) / 2)) (fun kk s3 wr => ∃ (p1 : Option Addr) (c1 : Nat), s3 = .slice p1 (digs kk).length c1 ∧ Hid (LR wr p1 c1 (digs kk)) ∧ r ≤ kk ∧ (digs kk).length ≤ n + 1 ∧ Hp [] w wr [])
    case atStart => exact ⟨p1, c1, rfl, HL1, hst.out, hlen0, H.sub (by repeat first | exact List.Sublist.refl _ | exact List.nil_sublist _ | apply List.Sublist.cons_cons | apply List.Sublist.cons)⟩
    case round =>
      clear H HL1 hlen0
      obtain ⟨p1, c1, rfl, HL1, hrk, hkl, H⟩ := hrel
      have hk0 : gk ≠ 0 := by omega
      have Hk0 := hid hk0
      clear hk0
      have hq1 := digs_mono (Nat.div_le_self A gk)
      rw [Hn.out] at hq1
      go_wp2_with (first | refine x_q H ?_ | refine x_cm (fun h => ?_) (fun h => ?_) | (revert H; (first | (refine x_g ?_; intro g w1 hg hf H) | (refine x_s ?_; intro w1 hf H)); (try (have hfk := hid hf; clear hf))))
      (refine x_c H (divide_any A gk Hn.out rfl hn0 Hk0.out (Hh.out.fr H.fr) HL1.out) ?_; clear H; rintro e w1 ⟨p2, c2, p3, c3, rfl, hF, hL1, hL2⟩ H; have HL2 := hid hL1; replace HL1 := hid (HL1.out.fr hF); clear hL1 hL2)
      go_wp2_with (first | refine x_q H ?_ | refine x_cm (fun h => ?_) (fun h => ?_) | (revert H; (first | (refine x_g ?_; intro g w1 hg hf H) | (refine x_s ?_; intro w1 hf H)); (try (have hfk := hid hf; clear hf))))
      (refine x_c H (plus_any (digs gk) (digs (A / gk)) rfl rfl (by omega) (by omega) HL1.out HL2.out) ?_; clear H; rintro e w1 ⟨p4, c4, rfl, hF, hL⟩ H; have HL4 := hid hL; replace HL1 := hid (HL1.out.fr hF); clear hL)
      rw [val_digs, val_digs] at HL4 ⊢
      have hs1 : (digs (gk + A / gk)).length ≤ 2000000 := by
        have := digs_two (digs_lim gk) (digs_lim (A / gk)) (x := gk + A / gk) (by rw [val_digs, val_digs]; exact Nat.le_refl _)
        omega
      go_wp2_with (first | refine x_q H ?_ | refine x_cm (fun h => ?_) (fun h => ?_) | (revert H; (first | (refine x_g ?_; intro g w1 hg hf H) | (refine x_s ?_; intro w1 hf H)); (try (have hfk := hid hf; clear hf))))
      (refine x_c H (down_any (gk + A / gk) 1 rfl hs1 (by omega) HL4.out) ?_; clear H; rintro e w1 ⟨p5, c5, rfl, hF, hL⟩ H; have HL5 := hid hL; replace HL1 := hid (HL1.out.fr hF); clear hL)
      rw [show 2 ^ 1 = 2 from rfl] at HL5 ⊢
      obtain ⟨y, hy⟩ : ∃ y, (gk + A / gk) / 2 = y := ⟨_, rfl⟩
      have hry : r ≤ y := by rw [← hy]; exact newton_ge (Nat.pos_of_ne_zero Hk0.out) HR.out.1
      have Hy := hid hy
      rw [hy] at HL5 ⊢
      generalize decide ((gk + A / gk) % 2 ≠ 0) = bb
      clear hy
      go_wp2_with (first | refine x_q H ?_ | refine x_cm (fun h => ?_) (fun h => ?_) | (revert H; (first | (refine x_g ?_; intro g w1 hg hf H) | (refine x_s ?_; intro w1 hf H)); (try (have hfk := hid hf; clear hf))))
      (refine x_c H (compare_any y gk rfl rfl HL5.out HL1.out) ?_; clear H; rintro e w1 ⟨rfl, hF⟩ H; replace HL1 := hid (HL1.out.fr hF); replace HL5 := hid (HL5.out.fr hF))
      by_cases hge : gk ≤ y
      · have hc := cmpZ_nonneg hge
        have E : Hid (gk = r) := hid (Nat.le_antisymm (root_le HR.out (newton_stop (Nat.pos_of_ne_zero Hk0.out) (by rw [Hy.out]; exact hge))) hrk)
        clear hge
        generalize cmpZ y gk = z at hc ⊢
        go_wp2_with (first | refine x_q H ?_ | refine x_cm (fun h => ?_) (fun h => ?_) | (revert H; (first | (refine x_g ?_; intro g w1 hg hf H) | (refine x_s ?_; intro w1 hf H)); (try (have hfk := hid hf; clear hf))))
        go_ret
        exact ⟨p1, c1, by rw [E.out]; rfl, H.fr, by have := HL1.out; rwa [E.out] at this⟩
      · have hc := cmpZ_neg (show y < gk by omega)
        have hyk := digs_mono (show y ≤ gk by omega)
        have hlt := hid (show y < gk by omega)
        clear hge
        generalize cmpZ y gk = z at hc ⊢
        go_wp2_with (first | refine x_q H ?_ | refine x_cm (fun h => ?_) (fun h => ?_) | (revert H; (first | (refine x_g ?_; intro g w1 hg hf H) | (refine x_s ?_; intro w1 hf H)); (try (have hfk := hid hf; clear hf))))
        go_roundg y
        case measure => exact hlt.out
        case rel => exact ⟨p5, c5, rfl, HL5, hry, by omega, H⟩
end Go.Proofs.YtpmebjhlgdhchaaDoor
/-
  The integers: BitLen, TrailingZeros, Shift, Sqrt.
-/
namespace Go.Proofs
open Go.Shelf
set_option linter.unusedSimpArgs false
set_option linter.unusedVariables false
def Tryd.lays28_ren : Go.Shelf.Ren := ⟨fun | 28 => 70 | n => n, fun | 0 => 0 | 3 => 3 | 4 => 4 | 5 => 5 | 25 => 59 | 27 => 54 | 53 => 86 | n => n, fun | 0 => 0 | n => n⟩
theorem Tryd.lays28 : Go.Proofs.Lays7.n28 Tryd.prog Tryd.lays28_ren := {
  mixed := by kernel_rfl
  f28 := Tryd.func70.trans (congrArg some (by kernel_rfl))
  t0 := Tryd.underlying0
  a0 := Tryd.isAgg0
  z0 := Tryd.sizeOf0
  v0 := Tryd.zeroValue0
  i0 := by kernel_rfl
  t3 := Tryd.underlying3
  a3 := Tryd.isAgg3
  z3 := Tryd.sizeOf3
  v3 := Tryd.zeroValue3
  i3 := by kernel_rfl
  t4 := Tryd.underlying4
  a4 := Tryd.isAgg4
  z4 := Tryd.sizeOf4
  v4 := Tryd.zeroValue4
  i4 := by kernel_rfl
  t5 := Tryd.underlying5
  a5 := Tryd.isAgg5
  z5 := Tryd.sizeOf5
  v5 := Tryd.zeroValue5
  i5 := by kernel_rfl
  t25 := Tryd.underlying59
  a25 := Tryd.isAgg59
  z25 := Tryd.sizeOf59
  v25 := Tryd.zeroValue59
  i25 := by kernel_rfl
  t27 := Tryd.underlying54
  a27 := Tryd.isAgg54
  z27 := Tryd.sizeOf54
  v27 := Tryd.zeroValue54
  i27 := by kernel_rfl
  t53 := Tryd.underlying86
  a53 := Tryd.isAgg86
  z53 := Tryd.sizeOf86
  v53 := Tryd.zeroValue86
  i53 := by kernel_rfl
  g0 := by kernel_rfl }
end Go.Proofs
namespace Go.Proofs.YtpmebjhlgdhchaaDoor
open Go.RowKit
set_option linter.unusedSimpArgs false
set_option linter.unusedVariables false
set_option maxHeartbeats 4000000
set_option maxRecDepth 100000
theorem ctz_tz : ∀ (f x : Nat), 0 < x → x < 2 ^ f → Lib.ctzFrom f x = tz x
  | 0, x, h0, h => by simp at h; omega
  | f + 1, x, h0, h => by
    rw [Lib.ctzFrom]
    by_cases h1 : x % 2 = 1
    · rw [if_pos h1, tz_odd h1]
    · rw [Nat.pow_succ] at h
      have e : x = 2 * (x / 2) := by omega
      rw [if_neg h1, ctz_tz f (x / 2) (by omega) (by omega)]
      conv => rhs; rw [e, tz_even (by omega)]
      omega
theorem tz32_any (w : World) (x : Nat) (h0 : x ≠ 0) (hx : x < 4294967296) (hT : TabAt 0 Lib.deBruijn32tab w) :
    Calls Tryd.prog 70 #[.int .u32 (x : Int)] w fun e w' => e = .returned (.int .i64 (tz x : Int)) ∧ Fr [] w w' := by
  refine Calls.mono (Any7.bits_TrailingZeros32 Tryd.lays28 x hx w (fun _ => hT)) ?_
  rintro e w' ⟨rfl, rfl⟩
  refine ⟨?_, Fr.refl _ _⟩
  rw [Lib.ctz, if_neg h0, ctz_tz 32 x (by omega) (by omega)]
theorem TabAt.fr {g : Nat} {tab : List Nat} {w w' : World} (h : TabAt g tab w) (k : Fr [] w w') : TabAt g tab w' := fun j hj => k.cell (h j hj) (by simp)
set_option maxHeartbeats 8000000 in
theorem bitLen_any {w : World} {p : Option Addr} {n c : Nat} (neg : Bool) (l : List Nat) (hl : l.length = n) (hn : n ≤ 1000000) (h : LR w p c l) :
    Calls Tryd.prog 39 #[.agg #[.bool neg, .slice p n c]] w fun e w' => e = .returned (.int .i64 (bl (val l) : Int)) ∧ Fr [] w w' := by
  subst hl
  have Hh := hid h
  have hA := hid (h.trim)
  have hlen := digs_len_le h.lim
  have H := Hp.start [] w
  clear h
  go_enter Tryd.func39, Tryd.ntmps39
  go_wp2_with (first | refine x_q H ?_ | refine x_cm (fun h => ?_) (fun h => ?_) | (revert H; (first | (refine x_g ?_; intro g w1 hg hf H) | (refine x_s ?_; intro w1 hf H)); (try (have hfk := hid hf; clear hf))))
  (refine x_c H (trim_any l rfl (Hh.out.fr H.fr)) ?_; clear H; rintro e w1 ⟨rfl, hF⟩ H; skip)
  go_wp2_with (first | refine x_q H ?_ | refine x_cm (fun h => ?_) (fun h => ?_) | (revert H; (first | (refine x_g ?_; intro g w1 hg hf H) | (refine x_s ?_; intro w1 hf H)); (try (have hfk := hid hf; clear hf))))
  (refine x_c H (length_any (val l) rfl (by omega) (hA.out.fr H.fr)) ?_; clear H; rintro e w1 ⟨rfl, hF⟩ H; skip)
  go_wp2_with (first | refine x_q H ?_ | refine x_cm (fun h => ?_) (fun h => ?_) | (revert H; (first | (refine x_g ?_; intro g w1 hg hf H) | (refine x_s ?_; intro w1 hf H)); (try (have hfk := hid hf; clear hf))))
  go_ret
  exact ⟨rfl, H.fr⟩
set_option maxHeartbeats 8000000 in
theorem trailing_any {w : World} {p : Option Addr} {n c : Nat} (neg : Bool) (l : List Nat) (hl : l.length = n) (hn : n ≤ 1000000) (h : LR w p c l) (hT : TabAt 0 Lib.deBruijn32tab w) :
    Calls Tryd.prog 41 #[.agg #[.bool neg, .slice p n c]] w fun e w' => e = .returned (.int .i64 (tz (val l) : Int)) ∧ Fr [] w w' := by
  subst hl
  have Hh := hid h
  have HT := hid hT
  have H := Hp.start [] w
  clear h hT
  go_enter Tryd.func41, Tryd.ntmps41
  go_wp2_with (first | refine x_q H ?_ | refine x_cm (fun h => ?_) (fun h => ?_) | (revert H; (first | (refine x_g ?_; intro g w1 hg hf H) | (refine x_s ?_; intro w1 hf H)); (try (have hfk := hid hf; clear hf))))
  go_loopw [8] (fun s8 wr => ∃ i : Nat, i ≤ l.length ∧ s8 = .int .i64 (i : Int) ∧ Hid (∀ j, j < i → l[j]? = some 0) ∧ Hp [] w wr [.blk g [.bool neg, .slice p l.length c] 24]) (fun v _ => l.length - (intOf v).toNat)
  case atStart => exact ⟨0, Nat.zero_le _, rfl, hid (fun j hj => absurd hj (Nat.not_lt_zero _)), H⟩
  case round =>
    clear H
    obtain ⟨i, hi, rfl, Hz, H⟩ := hrel
    by_cases hin : i < l.length
    · obtain ⟨x, hx⟩ : ∃ x, l[i]? = some x := ⟨_, List.getElem?_eq_getElem hin⟩
      have hxv := limbs_at hx
      have hxB := Hh.out.lim.at hx
      have Hx := hid hx
      obtain ⟨b0, off, rfl, hb0, hcell⟩ := Hh.out.rd.rng (limbs_ne (i := i) hin)
      have H1 := H.pushRng (b := b0) (off := off) hb0 (by simp) hcell
      clear H hcell
      have H := H1
      clear H1
      clear hx
      by_cases h0 : x = 0
      · have Hx0 := hid h0
        have hx0 : (x : Int) = 0 := by omega
        clear h0
        rw [hx0] at hxv
        clear hx0
        go_wp2_with (first | refine x_q H ?_ | refine x_cm (fun h => ?_) (fun h => ?_) | (revert H; (first | (refine x_g ?_; intro g w1 hg hf H) | (refine x_s ?_; intro w1 hf H)); (try (have hfk := hid hf; clear hf))))
        go_roundw
        case rel => exact ⟨i + 1, by omega, by go_num, hid (upto_step Hz.out (by have := Hx.out; rw [Hx0.out] at this; exact this)), H.sub (by repeat first | exact List.Sublist.refl _ | exact List.nil_sublist _ | apply List.Sublist.cons_cons | apply List.Sublist.cons)⟩
        case measure => (simp [intOf]; try omega)
      · have hx0 : 0 < x := Nat.pos_of_ne_zero h0
        have Hx0 := hid h0
        have HR : Hid (tz (val l) = 32 * i + tz x) := hid (tz_digs Hx.out h0 Hh.out.lim Hz.out)
        clear h0
        go_wp2_with (first | refine x_q H ?_ | refine x_cm (fun h => ?_) (fun h => ?_) | (revert H; (first | (refine x_g ?_; intro g w1 hg hf H) | (refine x_s ?_; intro w1 hf H)); (try (have hfk := hid hf; clear hf))))
        (refine x_c H (tz32_any _ x Hx0.out hxB (TabAt.fr HT.out H.fr)) ?_; clear H; rintro e w1 ⟨rfl, hF⟩ H; skip)
        have ht : tz x ≤ 64 := by
          have h1 := ctz_tz 32 x hx0 (by omega)
          obtain ⟨_, _, h2⟩ := Lib.ctzFrom_spec 32 x hx0 (by omega)
          omega
        go_wp2_with (first | refine x_q H ?_ | refine x_cm (fun h => ?_) (fun h => ?_) | (revert H; (first | (refine x_g ?_; intro g w1 hg hf H) | (refine x_s ?_; intro w1 hf H)); (try (have hfk := hid hf; clear hf))))
        go_ret
        refine ⟨?_, H.fr⟩
        rw [HR.out, show ((32 * i + tz x : Nat) : Int) = (i : Int) * 32 + (tz x : Int) by omega]
        rfl
    · have e : val l = 0 := by
        apply zeros_tail
        intro k x hk
        have h1 := (List.getElem?_eq_some_iff.1 hk).1
        have h2 := Hz.out k (by omega)
        rw [hk] at h2
        exact Option.some.inj h2
      have He := hid e
      clear e
      go_wp2_with (first | refine x_q H ?_ | refine x_cm (fun h => ?_) (fun h => ?_) | (revert H; (first | (refine x_g ?_; intro g w1 hg hf H) | (refine x_s ?_; intro w1 hf H)); (try (have hfk := hid hf; clear hf))))
      go_ret
      exact ⟨by rw [He.out, tz_zero]; rfl, H.fr⟩
def shiftZ (z n : Int) : Int := if 0 ≤ n then z * 2 ^ n.toNat else z / 2 ^ (-n).toNat
set_option maxHeartbeats 8000000 in
theorem shift_far {w : World} {p : Option Addr} {n c : Nat} {k : Int} (neg : Bool) (l : List Nat) (hl : l.length = n) (hn : n ≤ 400000) (hk : k < -1048576 ∨ 1048576 < k) (hk2 : -9223372036854775808 ≤ k ∧ k ≤ 9223372036854775807) (h : LR w p c l) :
    Calls Tryd.prog 37 #[.agg #[.bool neg, .slice p n c], .int .i64 k] w fun e w' => ∃ v1, e = .returned (.tuple #[v1, .int .i64 3]) ∧ Fr [] w w' ∧ BigV w' v1 0 := by
  have H := Hp.start [] w
  rcases hk with hk | hk
  · go_enter Tryd.func37, Tryd.ntmps37
    go_wp2_with (first | refine x_q H ?_ | refine x_cm (fun h => ?_) (fun h => ?_) | (revert H; refine x_s2 ?_; intro w1 hf H hk; have hk2 := hid hk; clear hk; (try (have hfk := hid hf; clear hf))) | (revert H; (first | (refine x_g ?_; intro g w1 hg hf H) | (refine x_s ?_; intro w1 hf H)); (try (have hfk := hid hf; clear hf))))
    refine c_postCT H rfl rfl rfl rfl ?_
    exact ⟨_, rfl, H.fr, BigV.zero _⟩
  · go_enter Tryd.func37, Tryd.ntmps37
    go_wp2_with (first | refine x_q H ?_ | refine x_cm (fun h => ?_) (fun h => ?_) | (revert H; refine x_s2 ?_; intro w1 hf H hk; have hk2 := hid hk; clear hk; (try (have hfk := hid hf; clear hf))) | (revert H; (first | (refine x_g ?_; intro g w1 hg hf H) | (refine x_s ?_; intro w1 hf H)); (try (have hfk := hid hf; clear hf))))
    refine c_postCT H rfl rfl rfl rfl ?_
    exact ⟨_, rfl, H.fr, BigV.zero _⟩
end Go.Proofs.YtpmebjhlgdhchaaDoor
/-
  The integers: Shift and Sqrt.
-/
namespace Go.Proofs.YtpmebjhlgdhchaaDoor
open Go.RowKit
set_option linter.unusedSimpArgs false
set_option linter.unusedVariables false
set_option maxHeartbeats 4000000
set_option maxRecDepth 100000
theorem sg_pow (neg : Bool) (A k : Nat) : sg neg (A * 2 ^ k) = sg neg A * 2 ^ k := by
  have e : ((2 ^ k : Nat) : Int) = (2 : Int) ^ k := by rw [Int.natCast_pow]; rfl
  unfold sg
  cases neg
  · simp [Int.natCast_mul, e]
  · simp [Int.natCast_mul, e, Int.neg_mul]
theorem pow_cast (k : Nat) : sg false (2 ^ k) = (2 : Int) ^ k := by
  show (((2 ^ k : Nat) : Int)) = _
  rw [Int.natCast_pow]; rfl
set_option maxHeartbeats 8000000 in
theorem shift_up {w : World} {p : Option Addr} {n c : Nat} (k : Nat) (neg : Bool) (l : List Nat) (hl : l.length = n) (hn : n ≤ 400000) (hk : k ≤ 1048576) (h : LR w p c l) :
    Calls Tryd.prog 37 #[.agg #[.bool neg, .slice p n c], .int .i64 (k : Int)] w fun e w' => ∃ v1, e = .returned (.tuple #[v1, .int .i64 0]) ∧ Fr [] w w' ∧ BigV w' v1 (zv neg l * 2 ^ k) := by
  subst hl
  have Hh := hid h
  have hA := hid (h.trim)
  have hlen := digs_len_le h.lim
  have H := Hp.start [] w
  clear h
  go_enter Tryd.func37, Tryd.ntmps37
  go_wp2_with (first | refine x_q H ?_ | refine x_cm (fun h => ?_) (fun h => ?_) | (revert H; (first | (refine x_g ?_; intro g w1 hg hf H) | (refine x_s ?_; intro w1 hf H)); (try (have hfk := hid hf; clear hf))))
  (refine x_c H (trim_any l rfl (Hh.out.fr H.fr)) ?_; clear H; rintro e w1 ⟨rfl, hF⟩ H; skip)
  go_wp2_with (first | refine x_q H ?_ | refine x_cm (fun h => ?_) (fun h => ?_) | (revert H; (first | (refine x_g ?_; intro g w1 hg hf H) | (refine x_s ?_; intro w1 hf H)); (try (have hfk := hid hf; clear hf))))
  (revert H; refine w_p 6 (.st 0 (.st 1 (.st 2 (.st 3 (.ld 4 (.ld 5 (.ldf 6 (.st 7 .done)))))))) ?_; intro w1 H)
  iterate 4 refine p_q ?_
  ((refine p_c H rfl rfl Tryd.func65 (up_any (digs (val l)) k rfl (by omega) (by omega) (hA.out.fr H.fr)) ?_; clear H; rintro e w1 ⟨p5, c5, rfl, hF, hL⟩ H; refine p_r ?_); have HL5 := hid hL; clear hL)
  ((refine p_c H rfl rfl Tryd.func53 (big_any neg (digs (val (digs (val l)) * 2 ^ k)) rfl HL5.out) ?_; clear H; rintro e w1 ⟨p6, c6, rfl, hF, hL⟩ H; refine p_r ?_); have HL6 := hid hL; clear hL)
  (refine pl_rwf rfl rfl (fun K hK => c_st2 H rfl rfl rfl (h := fun w1 hf H1 hk => hK _ _ ?_)); have hk2 := hid hk; clear hk; (clear hK K); (clear H; have H := H1; clear H1; (try dsimp only at H); (try (have hfk := hid hf; clear hf))); (simp only [nrm, ↓reduceIte, Nat.reduceAdd]))
  refine p_q ?_
  (refine pl_done ?_)
  all_goals
    go_wp2_with (first | refine x_q H ?_ | refine x_cm (fun h => ?_) (fun h => ?_) | (revert H; (first | (refine x_g ?_; intro g w1 hg hf H) | (refine x_s ?_; intro w1 hf H)); (try (have hfk := hid hf; clear hf))))
    refine c_postCT H rfl rfl rfl rfl ?_
    have e : zv neg (digs (val (digs (val l)) * 2 ^ k)) = zv neg l * 2 ^ k := by rw [zv_sg, val_digs, val_digs, sg_pow]; rfl
    rw [e] at HL6
    exact ⟨_, rfl, H.fr, p6, c6, by rw [e], hk2.out _ _ _ HL6.out⟩
set_option maxHeartbeats 8000000 in
theorem shift_down {w : World} {p : Option Addr} {n c : Nat} (k : Nat) (neg : Bool) (l : List Nat) (hl : l.length = n) (hn : n ≤ 400000) (hk0 : 0 < k) (hk : k ≤ 1048576) (h : LR w p c l) :
    Calls Tryd.prog 37 #[.agg #[.bool neg, .slice p n c], .int .i64 (-(k : Int))] w fun e w' => ∃ v1, e = .returned (.tuple #[v1, .int .i64 0]) ∧ Fr [] w w' ∧ BigV w' v1 (zv neg l / 2 ^ k) := by
  subst hl
  have Hh := hid h
  have hA := hid (h.trim)
  have hlen := digs_len_le h.lim
  have H := Hp.start [] w
  clear h
  have h2 : (2 : Nat) ^ k ≠ 0 := Nat.pos_iff_ne_zero.1 (Nat.two_pow_pos k)
  have h2 := hid h2
  go_enter Tryd.func37, Tryd.ntmps37
  go_wp2_with (first | refine x_q H ?_ | refine x_cm (fun h => ?_) (fun h => ?_) | (revert H; (first | (refine x_g ?_; intro g w1 hg hf H) | (refine x_s ?_; intro w1 hf H)); (try (have hfk := hid hf; clear hf))))
  (refine x_c H (trim_any l rfl (Hh.out.fr H.fr)) ?_; clear H; rintro e w1 ⟨rfl, hF⟩ H; skip)
  go_wp2_with (first | refine x_q H ?_ | refine x_cm (fun h => ?_) (fun h => ?_) | (revert H; (first | (refine x_g ?_; intro g w1 hg hf H) | (refine x_s ?_; intro w1 hf H)); (try (have hfk := hid hf; clear hf))))
  (refine x_c H (down_any (val l) k rfl (by omega) (by omega) (hA.out.fr H.fr)) ?_; clear H; rintro e w1 ⟨p5, c5, rfl, hF, hL⟩ H; have HL5 := hid hL; clear hL)
  have hql := digs_mono (Nat.div_le_self (val l) (2 ^ k))
  cases neg
  · generalize decide (val l % 2 ^ k ≠ 0) = lost
    go_wp2_with (first | refine x_q H ?_ | refine x_cm (fun h => ?_) (fun h => ?_) | (revert H; (first | (refine x_g ?_; intro g w1 hg hf H) | (refine x_s ?_; intro w1 hf H)); (try (have hfk := hid hf; clear hf))))
    (refine x_c H (big_any false (digs (val l / 2 ^ k)) rfl HL5.out) ?_; clear H; rintro e w1 ⟨p6, c6, rfl, hF, hL⟩ H; have HL6 := hid hL; clear hL)
    go_wp2_with (first | refine x_q H ?_ | refine x_cm (fun h => ?_) (fun h => ?_) | (revert H; refine x_s2 ?_; intro w1 hf H hk; have hk2 := hid hk; clear hk; (try (have hfk := hid hf; clear hf))) | (revert H; (first | (refine x_g ?_; intro g w1 hg hf H) | (refine x_s ?_; intro w1 hf H)); (try (have hfk := hid hf; clear hf))))
    refine c_postCT H rfl rfl rfl rfl ?_
    have e : zv false (digs (val l / 2 ^ k)) = zv false l / 2 ^ k := (by rw [zv_sg, zv_sg, val_digs, ← pow_cast]; exact (dm_plain (na := false) (nb := false) (A := val l) h2.out (.inl rfl)).1.symm)
    rw [e] at HL6
    exact ⟨_, rfl, H.fr, p6, c6, by rw [e], hk2.out _ _ _ HL6.out⟩
  · by_cases hr : val l % 2 ^ k = 0
    · have Hr := hid hr
      rw [show decide (val l % 2 ^ k ≠ 0) = false by simp [hr]]
      clear hr
      go_wp2_with (first | refine x_q H ?_ | refine x_cm (fun h => ?_) (fun h => ?_) | (revert H; (first | (refine x_g ?_; intro g w1 hg hf H) | (refine x_s ?_; intro w1 hf H)); (try (have hfk := hid hf; clear hf))))
      (refine x_c H (big_any true (digs (val l / 2 ^ k)) rfl HL5.out) ?_; clear H; rintro e w1 ⟨p6, c6, rfl, hF, hL⟩ H; have HL6 := hid hL; clear hL)
      go_wp2_with (first | refine x_q H ?_ | refine x_cm (fun h => ?_) (fun h => ?_) | (revert H; refine x_s2 ?_; intro w1 hf H hk; have hk2 := hid hk; clear hk; (try (have hfk := hid hf; clear hf))) | (revert H; (first | (refine x_g ?_; intro g w1 hg hf H) | (refine x_s ?_; intro w1 hf H)); (try (have hfk := hid hf; clear hf))))
      refine c_postCT H rfl rfl rfl rfl ?_
      have e : zv true (digs (val l / 2 ^ k)) = zv true l / 2 ^ k := (by rw [zv_sg, zv_sg, val_digs, ← pow_cast]; exact (dm_plain (na := true) (nb := false) (A := val l) h2.out (.inr Hr.out)).1.symm)
      rw [e] at HL6
      exact ⟨_, rfl, H.fr, p6, c6, by rw [e], hk2.out _ _ _ HL6.out⟩
    · have Hr := hid hr
      rw [show decide (val l % 2 ^ k ≠ 0) = true by simp [hr]]
      clear hr
      go_wp2_with (first | refine x_q H ?_ | refine x_cm (fun h => ?_) (fun h => ?_) | (refine is_buildSlice rfl ?_; refine wl_rw rfl (fun K hK => c_sN H rfl (by repeat first | exact .nil _ | apply Parts.tmp (by rfl) (by rfl) | apply Parts.con (by rfl)) rfl (by intro c hc; simp only [List.mem_cons, List.not_mem_nil, or_false] at hc; (try (rcases hc with rfl | rfl | rfl | rfl | rfl | rfl | rfl | rfl <;> rfl))) (by decide) (by decide) (fun g w1 hg hf H1 => hK _ _ ?_)); (clear hK K); (clear H; have H := H1; clear H1; (try dsimp only at H); (try (have hfk := hid hf; clear hf))); (simp only [nrm, ↓reduceIte, Nat.reduceAdd])) | (revert H; (first | (refine x_g ?_; intro g w1 hg hf H) | (refine x_s ?_; intro w1 hf H)); (try (have hfk := hid hf; clear hf))))
      have HO := hid (LR.of_blk (l := [1]) (c := 1) (pad := []) (by have := H.at g; simpa [limbs] using this) (Lim.cons (by decide) Lim.nil) (by simp) (by unfold maxLen; omega))
      (refine x_c H (plus_any (digs (val l / 2 ^ k)) [1] rfl rfl (by omega) (by simp) (HL5.out.fr hfk.out) HO.out) ?_; clear H; rintro e w1 ⟨p3, c3, rfl, hF, hL⟩ H; have HL3 := hid hL; clear hL)
      rw [val_digs, val_one] at HL3 ⊢
      go_wp2_with (first | refine x_q H ?_ | refine x_cm (fun h => ?_) (fun h => ?_) | (revert H; (first | (refine x_g ?_; intro g w1 hg hf H) | (refine x_s ?_; intro w1 hf H)); (try (have hfk := hid hf; clear hf))))
      (refine x_c H (big_any true (digs (val l / 2 ^ k + 1)) rfl HL3.out) ?_; clear H; rintro e w1 ⟨p6, c6, rfl, hF, hL⟩ H; have HL6 := hid hL; clear hL)
      go_wp2_with (first | refine x_q H ?_ | refine x_cm (fun h => ?_) (fun h => ?_) | (revert H; refine x_s2 ?_; intro w1 hf H hk; have hk2 := hid hk; clear hk; (try (have hfk := hid hf; clear hf))) | (revert H; (first | (refine x_g ?_; intro g w1 hg hf H) | (refine x_s ?_; intro w1 hf H)); (try (have hfk := hid hf; clear hf))))
      refine c_postCT H rfl rfl rfl rfl ?_
      have e : zv true (digs (val l / 2 ^ k + 1)) = zv true l / 2 ^ k := (by rw [zv_sg, zv_sg, val_digs, ← pow_cast]; exact (dm_down (nb := false) (A := val l) h2.out Hr.out).1.symm)
      rw [e] at HL6
      exact ⟨_, rfl, H.fr, p6, c6, by rw [e], hk2.out _ _ _ HL6.out⟩
set_option maxHeartbeats 8000000 in
theorem sqrt_any {w : World} {p : Option Addr} {n c : Nat} (neg : Bool) (l : List Nat) (r : Nat) (hl : l.length = n) (hn : n ≤ 400000) (hz : 0 ≤ zv neg l) (hr : IsRoot (val l) r) (h : LR w p c l) :
    Calls Tryd.prog 38 #[.agg #[.bool neg, .slice p n c]] w fun e w' => ∃ v1, e = .returned (.tuple #[v1, .int .i64 0]) ∧ Fr [] w w' ∧ BigV w' v1 (r : Int) := by
  subst hl
  have Hh := hid h
  have hA := hid (h.trim)
  have hlen := digs_len_le h.lim
  have H := Hp.start [] w
  clear h
  have hs : 0 ≤ Int.sign (zv neg l) := by
    obtain ⟨z, hz'⟩ := Int.eq_ofNat_of_zero_le hz
    rw [hz']
    cases z with
    | zero => exact Int.le_refl _
    | succ n => exact (by decide : (0 : Int) ≤ 1)
  have HR := hid hr
  clear hr hz
  go_enter Tryd.func38, Tryd.ntmps38
  go_wp2_with (first | refine x_q H ?_ | refine x_cm (fun h => ?_) (fun h => ?_) | (revert H; (first | (refine x_g ?_; intro g w1 hg hf H) | (refine x_s ?_; intro w1 hf H)); (try (have hfk := hid hf; clear hf))))
  (refine x_c H (sign_any neg l rfl (by omega) (Hh.out.fr H.fr)) ?_; clear H; rintro e w1 ⟨rfl, hF⟩ H; skip)
  generalize Int.sign (zv neg l) = s at hs ⊢
  go_wp2_with (first | refine x_q H ?_ | refine x_cm (fun h => ?_) (fun h => ?_) | (revert H; (first | (refine x_g ?_; intro g w1 hg hf H) | (refine x_s ?_; intro w1 hf H)); (try (have hfk := hid hf; clear hf))))
  (refine x_c H (trim_any l rfl (Hh.out.fr H.fr)) ?_; clear H; rintro e w1 ⟨rfl, hF⟩ H; skip)
  go_wp2_with (first | refine x_q H ?_ | refine x_cm (fun h => ?_) (fun h => ?_) | (revert H; (first | (refine x_g ?_; intro g w1 hg hf H) | (refine x_s ?_; intro w1 hf H)); (try (have hfk := hid hf; clear hf))))
  (refine x_c H (root_any (val l) r rfl (by omega) HR.out (hA.out.fr H.fr)) ?_; clear H; rintro e w1 ⟨p5, c5, rfl, hF, hL⟩ H; have HL5 := hid hL; clear hL)
  go_wp2_with (first | refine x_q H ?_ | refine x_cm (fun h => ?_) (fun h => ?_) | (revert H; (first | (refine x_g ?_; intro g w1 hg hf H) | (refine x_s ?_; intro w1 hf H)); (try (have hfk := hid hf; clear hf))))
  (refine x_c H (big_any false (digs r) rfl HL5.out) ?_; clear H; rintro e w1 ⟨p6, c6, rfl, hF, hL⟩ H; have HL6 := hid hL; clear hL)
  go_wp2_with (first | refine x_q H ?_ | refine x_cm (fun h => ?_) (fun h => ?_) | (revert H; refine x_s2 ?_; intro w1 hf H hk; have hk2 := hid hk; clear hk; (try (have hfk := hid hf; clear hf))) | (revert H; (first | (refine x_g ?_; intro g w1 hg hf H) | (refine x_s ?_; intro w1 hf H)); (try (have hfk := hid hf; clear hf))))
  refine c_postCT H rfl rfl rfl rfl ?_
  have e : zv false (digs r) = (r : Int) := by rw [zv_sg, val_digs]; rfl
  rw [e] at HL6
  exact ⟨_, rfl, H.fr, p6, c6, by rw [e], hk2.out _ _ _ HL6.out⟩
set_option maxHeartbeats 8000000 in
theorem sqrt_neg {w : World} {p : Option Addr} {n c : Nat} (neg : Bool) (l : List Nat) (hl : l.length = n) (hn : n ≤ 400000) (hz : zv neg l < 0) (h : LR w p c l) :
    Calls Tryd.prog 38 #[.agg #[.bool neg, .slice p n c]] w fun e w' => ∃ v1, e = .returned (.tuple #[v1, .int .i64 11]) ∧ Fr [] w w' ∧ BigV w' v1 0 := by
  subst hl
  have Hh := hid h
  have H := Hp.start [] w
  clear h
  have hs : Int.sign (zv neg l) < 0 := by
    rcases sign_cases (zv neg l) with e | e | e
    · omega
    · exact absurd (Int.sign_eq_zero_iff_zero.1 e) (by omega)
    · exact absurd (Int.sign_eq_one_iff_pos.1 e) (by omega)
  clear hz
  go_enter Tryd.func38, Tryd.ntmps38
  go_wp2_with (first | refine x_q H ?_ | refine x_cm (fun h => ?_) (fun h => ?_) | (revert H; (first | (refine x_g ?_; intro g w1 hg hf H) | (refine x_s ?_; intro w1 hf H)); (try (have hfk := hid hf; clear hf))))
  (refine x_c H (sign_any neg l rfl (by omega) (Hh.out.fr H.fr)) ?_; clear H; rintro e w1 ⟨rfl, hF⟩ H; skip)
  generalize Int.sign (zv neg l) = s at hs ⊢
  go_wp2_with (first | refine x_q H ?_ | refine x_cm (fun h => ?_) (fun h => ?_) | (revert H; refine x_s2 ?_; intro w1 hf H hk; have hk2 := hid hk; clear hk; (try (have hfk := hid hf; clear hf))) | (revert H; (first | (refine x_g ?_; intro g w1 hg hf H) | (refine x_s ?_; intro w1 hf H)); (try (have hfk := hid hf; clear hf))))
  refine c_postCT H rfl rfl rfl rfl ?_
  exact ⟨_, rfl, H.fr, BigV.zero _⟩
end Go.Proofs.YtpmebjhlgdhchaaDoor
