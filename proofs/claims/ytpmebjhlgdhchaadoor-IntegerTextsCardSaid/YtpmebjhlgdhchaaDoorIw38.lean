/-
  The document's integers: a magnitude shifted up.
-/
import Derived.Test.YtpmebjhlgdhchaaDoorIw34
import Derived.Test.YtpmebjhlgdhchaaDoorIw32
import Derived.Test.YtpmebjhlgdhchaaDoorIw30
namespace Go.Proofs.YtpmebjhlgdhchaaDoor
open Go.RowKit
set_option linter.unusedSimpArgs false
set_option linter.unusedVariables false
set_option maxHeartbeats 4000000
set_option maxRecDepth 100000
theorem or_up {x q cy : Nat} (hq : q < 32) (hx : x < 4294967296) (hc : cy < 2 ^ q) : bits .or .u64 (cy : Int) (IntKind.u64.wrap ((x : Int) * 2 ^ q)) = ((x * 2 ^ q + cy : Nat) : Int) := by
  have h1 : 2 ^ q ≤ 2 ^ 31 := Nat.pow_le_pow_right (by decide) (by omega)
  have h2 : x * 2 ^ q ≤ 4294967295 * 2 ^ 31 := Nat.mul_le_mul (by omega) h1
  have e1 : IntKind.u64.wrap ((x : Int) * 2 ^ q) = ((x * 2 ^ q : Nat) : Int) := wrapN _ (by rw [Int.natCast_mul, Int.natCast_pow]; rfl) (by omega)
  rw [e1, or_nat64 hc rfl (by omega), Nat.add_comm]
theorem shl_round {o : List Nat} {W i q cy x T : Nat} (hl : o.length = W + i) (h : val o + 4294967296 ^ (W + i) * cy = 4294967296 ^ W * (2 ^ q * T)) :
    val (o ++ [(x * 2 ^ q + cy) % 4294967296]) + 4294967296 ^ (W + (i + 1)) * ((x * 2 ^ q + cy) / 4294967296) = 4294967296 ^ W * (2 ^ q * (T + 4294967296 ^ i * x)) := by
  have h1 := plus_round (y := 0) (x := x * 2 ^ q) (t := x * 2 ^ q + 0 + cy) hl h rfl
  rw [Nat.add_zero, Nat.mul_zero, Nat.add_zero] at h1
  rw [show W + (i + 1) = W + i + 1 by omega, h1]
  exact up_alg ..
/-- A list of limbs in a new block comes back. -/
def ShlP (w : World) (n V : Nat) (e : Ending) (w' : World) : Prop := ∃ (g c : Nat) (o : List Nat) (pad : List Value), e = .returned (.slice (some ⟨g, 0, none⟩) n c) ∧ Fr [] w w' ∧ w.heap.size ≤ g ∧ w'.heap[g]? = some (.cells (limbs o ++ pad).toArray 54 (0, 0)) ∧ o.length = n ∧ Lim o ∧ val o = V ∧ n ≤ c ∧ c ≤ maxLen
set_option maxHeartbeats 8000000 in
theorem shl_own {w : World} {p : Option Addr} {n c : Nat} (a : List Nat) (s : Nat) (hn : a.length = n) (hn0 : n ≤ 1000000) (hs : s ≤ 2000000) (h : LR w p c a) :
    Calls Tryd.prog 71 #[.slice p n c, .int .i64 (s : Int)] w fun e w' => ShlP w (s / 32 + n + 1) (val a * 2 ^ s) e w' := by
  subst hn
  have Hh := hid h
  clear h
  have H := Hp.start [] w
  obtain ⟨W, hW⟩ : ∃ W, s / 32 = W := ⟨_, rfl⟩
  obtain ⟨q, hq⟩ : ∃ q, s % 32 = q := ⟨_, rfl⟩
  have hq32 : q < 32 := by omega
  have HS : Hid (s = 32 * W + q) := hid (by omega)
  have HW : Hid ((s : Int) / 32 = (W : Int)) := hid (by omega)
  have hW2 : W ≤ 64000 := by omega
  have HQ : (s : Int) % 32 = (q : Int) := by omega
  have hqB : 2 ^ q ≤ 2147483648 := Nat.pow_le_pow_right (show 0 < 2 by decide) (show q ≤ 31 by omega)
  rw [hW]
  clear hW hq
  go_enter Tryd.func71, Tryd.ntmps71
  go_wp2_with (first | refine x_q H ?_ | refine x_cm (fun h => ?_) (fun h => ?_) | (revert H; (first | (refine x_g ?_; intro g w1 hg hf H) | (refine x_s ?_; intro w1 hf H)); (try clear hf)))
  rw [HW.out] at H ⊢
  rw [show ((W : Int)).toNat = W by omega] at H ⊢
  rw [zeros_limbs] at H
  have H1 := H.blkObj 0 (Q := RowAt 54 1 (.slice (some ⟨g, 0, none⟩) W W) W (limbs (List.replicate W 0)) [g]) ⟨by rw [limbs_len, List.length_replicate, Nat.mul_one], .inr ⟨g, W, [], rfl, rfl, Nat.le_refl _, by unfold maxLen; omega, by rw [List.append_nil, limbs_len, List.length_replicate, Nat.mul_one], by rw [List.append_nil]; exact H.at g⟩⟩
  clear H hg
  have H := H1
  clear H1
  go_loopw [5, 6, 7] (fun s5 s6 s7 wr => ∃ (i : Nat) (o : List Nat) (cy : Nat) (pv : Value) (S : List Nat), i ≤ a.length ∧ s7 = .int .i64 i ∧ s6 = .int .u64 cy ∧ s5 = pv ∧ Hid (o.length = W + i) ∧ Hid (Lim o) ∧ cy < 2 ^ q ∧ Hid (val o + 4294967296 ^ (W + i) * cy = 4294967296 ^ W * (2 ^ q * val (a.take i))) ∧ Hp [] w wr [.obj 0 S (RowAt 54 1 pv (W + i) (limbs o) S)]) (fun _ _ v _ => a.length - (intOf v).toNat)
  case atStart => exact ⟨0, List.replicate W 0, 0, _, _, Nat.zero_le _, rfl, rfl, rfl, hid List.length_replicate, hid (Lim.zeros _), Nat.two_pow_pos q, hid (by rw [val_zeros]; simp [val]), H⟩
  case round =>
    clear H
    obtain ⟨i, o, cy, pv, S, hi, rfl, rfl, hpv, Hol, Hlo, hcy, Hv, H⟩ := hrel
    obtain ⟨p5, c5, he, _, hc5, _⟩ := (H.rowo 0).form
    unfold maxLen at hc5
    subst he
    subst hpv
    have hcyB : cy < 2147483648 := by omega
    by_cases hin : i < a.length
    · obtain ⟨x, hx⟩ : ∃ x, a[i]? = some x := ⟨_, List.getElem?_eq_getElem hin⟩
      have hxv := limbs_at hx
      have hxB := Hh.out.lim.at hx
      have Hx := hid hx
      clear hx
      obtain ⟨b0, off, rfl, hb0, hcell⟩ := Hh.out.rd.rng (limbs_ne (i := i) hin)
      have H1 := H.pushRng (b := b0) (off := off) hb0 (by simp) hcell
      clear H hcell
      have H := H1
      clear H1
      have HOR := hid (or_up hq32 hxB hcy)
      have hsum := up_sum hq32 hxB hcy
      have hhi := up_high (p := q) hxB
      have ht64 : x * 2 ^ q + cy < 18446744073709551616 := by
        have h2 : x * 2 ^ q ≤ 4294967295 * 2147483648 := Nat.mul_le_mul (by omega) hqB
        omega
      obtain ⟨t, ht⟩ : ∃ t, x * 2 ^ q + cy = t := ⟨_, rfl⟩
      have Ht := hid ht
      have hcy2 : t / 4294967296 < 2 ^ q := by
        rw [← ht]
        have h3 : (x * 2 ^ q + cy) / 4294967296 = x * 2 ^ q / 4294967296 := by omega
        rw [h3]; exact hhi
      rw [ht] at HOR ht64
      clear ht hsum hhi
      go_upto_region 7 with (first | refine x_q H ?_ | refine x_cm (fun h => ?_) (fun h => ?_) | (revert H; (first | (refine x_g ?_; intro g w1 hg hf H) | (refine x_s ?_; intro w1 hf H)); (try clear hf)))
      rw [HOR.out]
      go_wp2_with (first | refine x_q H ?_ | refine x_cm (fun h => ?_) (fun h => ?_) | refine x_e (ev_high rfl rfl) ?_ | (refine is_blt (b := .append) rfl ?_; go_loud (refine wl_rw rfl (fun K hK => c_aprS H rfl rfl rfl 0 (H.rd (b := g) (off := 0) (vs := [.int .u32 (((t % 4294967296 : Nat) : Int))]) List.prefix_rfl) rfl (by intro u hu; simp only [List.mem_singleton] at hu; subst hu; rfl) (by omega) (by unfold maxLen; omega) (fun p1 c1 w1 S' hf H1 => hK _ _ ?_))); (clear hK K); (clear H; have H := H1; clear H1; (try dsimp only at H); (try clear hf)); (simp only [nrm, ↓reduceIte, Nat.reduceAdd])) | (revert H; (first | (refine x_g ?_; intro g w1 hg hf H) | (refine x_s ?_; intro w1 hf H)); (try clear hf)))
      rw [limbs_snoc] at H
      go_roundw
      case rel => exact ⟨i + 1, o ++ [t % 4294967296], t / 4294967296, _, S', by omega, by go_num, by rw [show (t : Int) / 4294967296 = ((t / 4294967296 : Nat) : Int) by omega], rfl, hid (by rw [List.length_append, Hol.out]; rfl), hid (Hlo.out.app (Lim.cons (Nat.mod_lt _ (by decide)) Lim.nil)), hcy2, hid (by rw [val_take_succ Hx.out, ← Ht.out]; exact shl_round Hol.out Hv.out), H.sub (by repeat first | exact List.Sublist.refl _ | exact List.nil_sublist _ | apply List.Sublist.cons_cons | apply List.Sublist.cons)⟩
      case measure => (simp [intOf]; try omega)
    · have e : i = a.length := by omega
      have HV : Hid (val (o ++ [cy]) = val a * 2 ^ s) := hid (by
        have := Hv.out
        rw [e, List.take_of_length_le (Nat.le_refl _)] at this
        rw [val_snoc, Hol.out, e, this, HS.out, Nat.pow_add, powB, Nat.mul_comm (val a), Nat.mul_assoc])
      have Hl1 : Hid (Lim (o ++ [cy])) := hid (Hlo.out.app (Lim.cons (by omega) Lim.nil))
      have Hl2 : Hid ((o ++ [cy]).length = W + a.length + 1) := hid (by rw [List.length_append, Hol.out, e]; rfl)
      have He := hid e
      clear e
      go_wp2_with (first | refine x_q H ?_ | refine x_cm (fun h => ?_) (fun h => ?_) | (refine is_blt (b := .append) rfl ?_; go_loud (refine wl_rw rfl (fun K hK => c_aprS H rfl rfl rfl 0 (H.rd (b := g) (off := 0) (vs := [.int .u32 ((cy : Int))]) List.prefix_rfl) rfl (by intro u hu; simp only [List.mem_singleton] at hu; subst hu; rfl) (by omega) (by unfold maxLen; omega) (fun p1 c1 w1 S' hf H1 => hK _ _ ?_))); (clear hK K); (clear H; have H := H1; clear H1; (try dsimp only at H); (try clear hf)); (simp only [nrm, ↓reduceIte, Nat.reduceAdd])) | (revert H; (first | (refine x_g ?_; intro g w1 hg hf H) | (refine x_s ?_; intro w1 hf H)); (try clear hf)))
      rw [limbs_snoc] at H
      obtain ⟨hrow0, ⟨hS0, hn0', he⟩ | ⟨g0, cap0, pad0, hS0, he, hle, hmax, hlen0, hg0⟩⟩ := H.rowo 0
      · exact absurd hn0' (by omega)
      injection he with e1 e2 e3
      subst e1 e3
      have hnew : w.heap.size ≤ g0 := by
        have h1 := (H.ok _ (.tail _ (.head _))).2.2 g0 (by rw [hS0]; simp)
        rcases h1 with h1 | h1
        · simp at h1
        · exact h1
      go_ret
      rw [← He.out]
      exact ⟨g0, _, o ++ [cy], pad0, rfl, H.fr, hnew, hg0, by rw [Hl2.out, He.out], Hl1.out, HV.out, by omega, hmax⟩
theorem shl_any {w : World} {p : Option Addr} {n c : Nat} (a : List Nat) (s : Nat) (hn : a.length = n) (hn0 : n ≤ 1000000) (hs : s ≤ 2000000) (h : LR w p c a) :
    Calls Tryd.prog 71 #[.slice p n c, .int .i64 (s : Int)] w fun e w' => ∃ p' c' o, e = .returned (.slice p' (s / 32 + n + 1) c') ∧ Fr [] w w' ∧ LR w' p' c' o ∧ o.length = s / 32 + n + 1 ∧ val o = val a * 2 ^ s := by
  refine Calls.mono (shl_own a s hn hn0 hs h) ?_
  rintro e w' ⟨g, c', o, pad, rfl, hF, _, hg, hl, hlim, hv, hc, hm⟩
  exact ⟨_, c', o, rfl, hF, LR.of_blk hg hlim (by omega) hm, hl, hv⟩
end Go.Proofs.YtpmebjhlgdhchaaDoor
