import Derived.Test.YthbeeeclgbpopaaGreatDoorYIw34
import Derived.Test.YthbeeeclgbpopaaGreatDoorYIw32
import Derived.Deep.DeepCutAuto
import Derived.Deep.CutBlock
namespace Go.Proofs.YthbeeeclgbpopaaGreatDoor
open Go.RowKit
set_option linter.unusedSimpArgs false
set_option linter.unusedVariables false
set_option maxHeartbeats 4000000
set_option maxRecDepth 100000
theorem or_up {x q cy : Nat} (hq : q < 32) (hx : x < 4294967296) (hc : cy < 2 ^ q) : bits .or .u64 (cy : Int) (IntKind.u64.wrap ((x : Int) * 2 ^ q)) = ((x * 2 ^ q + cy : Nat) : Int) := by
 have h1 : 2 ^ q ≤ 2 ^ 31 := Nat.pow_le_pow_right (by decide) (by omega)
 have h2 : x * 2 ^ q ≤ 4294967295 * 2 ^ 31 := Nat.mul_le_mul (by omega) h1
 have e1 : IntKind.u64.wrap ((x : Int) * 2 ^ q) = ((x * 2 ^ q : Nat) : Int) := wrapN _ (by rw [Int.natCast_mul, Int.natCast_pow]; rfl) (by omega)
 rw [e1, or_nat64 hc rfl (by omega), Nat.add_comm]
theorem shl_round {o : List Nat} {W i q cy x T : Nat} (hl : o.length = W + i) (h : val o + 4294967296 ^ (W + i) * cy = 4294967296 ^ W * (2 ^ q * T)) :
  val (o ++ [(x * 2 ^ q + cy) % 4294967296]) + 4294967296 ^ (W + (i + 1)) * ((x * 2 ^ q + cy) / 4294967296) = 4294967296 ^ W * (2 ^ q * (T + 4294967296 ^ i * x)) := by
 have h1 := plus_round (y := 0) (x := x * 2 ^ q) (t := x * 2 ^ q + 0 + cy) hl h rfl
 rw [Nat.add_zero, Nat.mul_zero, Nat.add_zero] at h1
 rw [show W + (i + 1) = W + i + 1 by omega, h1]
 exact up_alg ..
def ShlP (w : World) (n V : Nat) (e : Ending) (w' : World) : Prop := ∃ (g c : Nat) (o : List Nat) (pad : List Value), e = .returned (.slice (some ⟨g, 0, none⟩) n c) ∧ Fr [] w w' ∧ w.heap.size ≤ g ∧ w'.heap[g]? = some (.cells (limbs o ++ pad).toArray 99 (0, 0)) ∧ o.length = n ∧ Lim o ∧ val o = V ∧ n ≤ c ∧ c ≤ maxLen
set_option maxHeartbeats 8000000 in
theorem shl_own {w : World} {p : Option Addr} {n c : Nat} (a : List Nat) (s : Nat) (hn : a.length = n) (hn0 : n ≤ 1000000) (hs : s ≤ 2000000) (h : LR w p c a) :
  Calls Tryz.prog 133 #[.slice p n c, .int .i64 (s : Int)] w fun e w' => ShlP w (s / 32 + n + 1) (val a * 2 ^ s) e w' := by
 subst hn
 have Hh := hid h
 clear h
 have H := Hp.start [] w
 obtain ⟨W, hW⟩ : ∃ W, s / 32 = W := ⟨_, rfl⟩
 obtain ⟨q, hq⟩ : ∃ q, s % 32 = q := ⟨_, rfl⟩
 have hq32 : q < 32 := by omega
 have HS : Hid (s = 32 * W + q) := hid (by omega)
 have HW : Hid ((s : Int) / 32 = (W : Int)) := hid (by omega)
 have hW2 : W ≤ 64000 := by omega
 have HQ : (s : Int) % 32 = (q : Int) := by omega
 have hqB : 2 ^ q ≤ 2147483648 := Nat.pow_le_pow_right (show 0 < 2 by decide) (show q ≤ 31 by omega)
 rw [hW]
 clear hW hq
 go_enter Tryz.func133, Tryz.ntmps133
 go_wp2_with (first | refine x_q H ?_ | (revert H; refine x_g ?_; intro g w1 hg hf H; (try clear hf)))
 rw [HW.out] at H ⊢
 rw [show ((W : Int)).toNat = W by omega] at H ⊢
 rw [zeros_limbs] at H
 have H1 := H.blkObj 0 (Q := RowAt 99 1 (.slice (some ⟨g, 0, none⟩) W W) W (limbs (List.replicate W 0)) [g]) ⟨by rw [limbs_len, List.length_replicate, Nat.mul_one], .inr ⟨g, W, [], rfl, rfl, Nat.le_refl _, by unfold maxLen; omega, by rw [List.append_nil, limbs_len, List.length_replicate, Nat.mul_one], by rw [List.append_nil]; exact H.at g⟩⟩
 clear H hg
 have H := H1
 clear H1
 go_loopw [5, 6, 7] (fun s5 s6 s7 wr => ∃ (i : Nat) (o : List Nat) (cy : Nat) (pv : Value) (S : List Nat), i ≤ a.length ∧ s7 = .int .i64 i ∧ s6 = .int .u64 cy ∧ s5 = pv ∧ Hid (o.length = W + i) ∧ Hid (Lim o) ∧ cy < 2 ^ q ∧ Hid (val o + 4294967296 ^ (W + i) * cy = 4294967296 ^ W * (2 ^ q * val (a.take i))) ∧ Hp [] w wr [.obj 0 S (RowAt 99 1 pv (W + i) (limbs o) S)]) (fun _ _ v _ => a.length - (intOf v).toNat)
 case atStart => exact ⟨0, List.replicate W 0, 0, _, _, Nat.zero_le _, rfl, rfl, rfl, hid List.length_replicate, hid (Lim.zeros _), Nat.two_pow_pos q, hid (by rw [val_zeros]; simp [val]), H⟩
 case round =>
  clear H
  obtain ⟨i, o, cy, pv, S, hi, rfl, rfl, hpv, Hol, Hlo, hcy, Hv, H⟩ := hrel
  obtain ⟨p5, c5, he, _, hc5, _⟩ := (H.rowo 0).form
  unfold maxLen at hc5
  subst he
  subst hpv
  have hcyB : cy < 2147483648 := by omega
  by_cases hin : i < a.length
  ·obtain ⟨x, hx⟩ : ∃ x, a[i]? = some x := ⟨_, List.getElem?_eq_getElem hin⟩
   have hxv := limbs_at hx
   have hxB := Hh.out.lim.at hx
   have Hx := hid hx
   clear hx
   obtain ⟨b0, off, rfl, hb0, hcell⟩ := Hh.out.rd.rng (limbs_ne (i := i) hin)
   have H1 := H.pushRng (b := b0) (off := off) hb0 (by simp) hcell
   clear H hcell
   have H := H1
   clear H1
   have HOR := hid (or_up hq32 hxB hcy)
   have hsum := up_sum hq32 hxB hcy
   have hhi := up_high (p := q) hxB
   have ht64 : x * 2 ^ q + cy < 18446744073709551616 := by
    have h2 : x * 2 ^ q ≤ 4294967295 * 2147483648 := Nat.mul_le_mul (by omega) hqB
    omega
   obtain ⟨t, ht⟩ : ∃ t, x * 2 ^ q + cy = t := ⟨_, rfl⟩
   have Ht := hid ht
   have hcy2 : t / 4294967296 < 2 ^ q := by
    rw [← ht]
    have h3 : (x * 2 ^ q + cy) / 4294967296 = x * 2 ^ q / 4294967296 := by omega
    rw [h3]; exact hhi
   rw [ht] at HOR ht64
   clear ht hsum hhi
   go_upto_region 7 with (first | refine x_q H ?_ | refine x_cm (fun h => ?_) (fun h => ?_) | (revert H; (first | (refine x_g ?_; intro g w1 hg hf H) | (refine x_s ?_; intro w1 hf H)); (try clear hf)))
   rw [HOR.out]
   go_wp2_with (first | refine x_q H ?_ | refine x_e (ev_high rfl rfl) ?_ | (refine is_blt (b := .append) rfl ?_; go_loud (refine wl_rw rfl (fun K hK => c_aprS H rfl rfl rfl 0 (H.rd (b := g) (off := 0) (vs := [.int .u32 (((t % 4294967296 : Nat) : Int))]) List.prefix_rfl) rfl (by intro u hu; simp only [List.mem_singleton] at hu; subst hu; rfl) (by omega) (by unfold maxLen; omega) (fun p1 c1 w1 S' hf H1 => hK _ _ ?_))); (clear hK K); (clear H; have H := H1; clear H1; (try dsimp only at H); (try clear hf)); (simp only [nrm, ↓reduceIte, Nat.reduceAdd])) | (revert H; refine x_g ?_; intro g w1 hg hf H; (try clear hf)))
   rw [limbs_snoc] at H
   go_roundw
   case rel => exact ⟨i + 1, o ++ [t % 4294967296], t / 4294967296, _, S', by omega, by go_num, by rw [show (t : Int) / 4294967296 = ((t / 4294967296 : Nat) : Int) by omega], rfl, hid (by rw [List.length_append, Hol.out]; rfl), hid (Hlo.out.app (Lim.cons (Nat.mod_lt _ (by decide)) Lim.nil)), hcy2, hid (by rw [val_take_succ Hx.out, ← Ht.out]; exact shl_round Hol.out Hv.out), H.sub (by repeat first | exact List.Sublist.refl _ | exact List.nil_sublist _ | apply List.Sublist.cons_cons | apply List.Sublist.cons)⟩
   case measure => (simp [intOf]; try omega)
  ·have e : i = a.length := by omega
   have HV : Hid (val (o ++ [cy]) = val a * 2 ^ s) := hid (by
    have := Hv.out
    rw [e, List.take_of_length_le (Nat.le_refl _)] at this
    rw [val_snoc, Hol.out, e, this, HS.out, Nat.pow_add, powB, Nat.mul_comm (val a), Nat.mul_assoc])
   have Hl1 : Hid (Lim (o ++ [cy])) := hid (Hlo.out.app (Lim.cons (by omega) Lim.nil))
   have Hl2 : Hid ((o ++ [cy]).length = W + a.length + 1) := hid (by rw [List.length_append, Hol.out, e]; rfl)
   have He := hid e
   clear e
   go_wp2_with (first | refine x_q H ?_ | (refine is_blt (b := .append) rfl ?_; go_loud (refine wl_rw rfl (fun K hK => c_aprS H rfl rfl rfl 0 (H.rd (b := g) (off := 0) (vs := [.int .u32 ((cy : Int))]) List.prefix_rfl) rfl (by intro u hu; simp only [List.mem_singleton] at hu; subst hu; rfl) (by omega) (by unfold maxLen; omega) (fun p1 c1 w1 S' hf H1 => hK _ _ ?_))); (clear hK K); (clear H; have H := H1; clear H1; (try dsimp only at H); (try clear hf)); (simp only [nrm, ↓reduceIte, Nat.reduceAdd])) | (revert H; refine x_g ?_; intro g w1 hg hf H; (try clear hf)))
   rw [limbs_snoc] at H
   obtain ⟨hrow0, ⟨hS0, hn0', he⟩ | ⟨g0, cap0, pad0, hS0, he, hle, hmax, hlen0, hg0⟩⟩ := H.rowo 0
   ·exact absurd hn0' (by omega)
   injection he with e1 e2 e3
   subst e1 e3
   have hnew : w.heap.size ≤ g0 := by
    have h1 := (H.ok _ (.tail _ (.head _))).2.2 g0 (by rw [hS0]; simp)
    rcases h1 with h1 | h1
    ·simp at h1
    ·exact h1
   go_ret
   rw [← He.out]
   exact ⟨g0, _, o ++ [cy], pad0, rfl, H.fr, hnew, hg0, by rw [Hl2.out, He.out], Hl1.out, HV.out, by omega, hmax⟩
theorem shl_any {w : World} {p : Option Addr} {n c : Nat} (a : List Nat) (s : Nat) (hn : a.length = n) (hn0 : n ≤ 1000000) (hs : s ≤ 2000000) (h : LR w p c a) :
  Calls Tryz.prog 133 #[.slice p n c, .int .i64 (s : Int)] w fun e w' => ∃ p' c' o, e = .returned (.slice p' (s / 32 + n + 1) c') ∧ Fr [] w w' ∧ LR w' p' c' o ∧ o.length = s / 32 + n + 1 ∧ val o = val a * 2 ^ s := by
 refine Calls.mono (shl_own a s hn hn0 hs h) ?_
 rintro e w' ⟨g, c', o, pad, rfl, hF, _, hg, hl, hlim, hv, hc, hm⟩
 exact ⟨_, c', o, rfl, hF, LR.of_blk hg hlim (by omega) hm, hl, hv⟩
def TakeP (g n G V : Nat) (pre seg post : List Nat) (pad : List Value) (e : Ending) (w w' : World) : Prop := ∃ seg' : List Nat, e = .returned (.bool (decide (G * V ≤ val seg))) ∧ Fr [g] w w' ∧ seg'.length = n + 1 ∧ Lim seg' ∧ val seg' = (if G * V ≤ val seg then val seg - G * V else val seg) ∧ (¬ G * V ≤ val seg → seg' = seg) ∧ w'.heap[g]? = some (.cells (limbs (pre ++ seg' ++ post) ++ pad).toArray 99 (0, 0))
set_option maxHeartbeats 8000000 in
theorem take_any {w : World} {g j ln cap n c G : Nat} {pre seg post v : List Nat} {pad : List Value} {pv : Option Addr}
  (hg : w.heap[g]? = some (.cells (limbs (pre ++ seg ++ post) ++ pad).toArray 99 (0, 0))) (hj : pre.length = j) (hs : seg.length = n + 1) (hv : v.length = n) (hn : n ≤ 1000000) (hj0 : j ≤ 1000000) (hln : (pre ++ seg ++ post).length = ln) (hlc : ln ≤ cap) (hcap2 : cap ≤ 9223372036854775807)
  (ls : Lim seg) (hG : G < 4294967296) (hr : LR w pv c v) (hne : ∀ b off, pv = some ⟨b, off, none⟩ → b ≠ g) (hn1 : 1 ≤ n) :
  Calls Tryz.prog 180 #[.slice (some ⟨g, 0, none⟩) ln cap, .slice pv n c, .int .i64 (j : Int), .int .u64 (G : Int)] w fun e w' => TakeP g n G (val v) pre seg post pad e w w' := by
 obtain ⟨hlc1, hc⟩ := hr.clen
 have lv := hr.lim
 obtain ⟨b1, off1, rfl, hb1, hcell⟩ := hr.rd.rng (limbs_ne (i := 0) (by omega))
 have hb1g : b1 ≠ g := hne _ _ rfl
 have H : Hp [g] w w [.blk g (limbs (pre ++ seg ++ post) ++ pad) 99, .rng b1 off1 (limbs v)] := by
  have K := (Hp.start [g] w).pushRng (b := b1) (off := off1) hb1 (by simpa using hb1g) hcell
  exact K.push hg (.inl (by simp)) (by simp [Ent.own])
 rw [hv] at hlc1
 have Hs := hid hs
 have Hv := hid hv
 have Hj := hid hj
 have hln1 : j + n + 1 ≤ ln := by rw [← hln, List.length_append, List.length_append, hj, hs]; omega
 have Hln := hid hln
 clear hne hb1g hcell hr hg hs hv hj hln
 obtain ⟨g1, hg1⟩ : ∃ g1, g1 = g := ⟨g, rfl⟩
 subst hg1
 go_enter Tryz.func180, Tryz.ntmps180
 go_wp2_with (revert H; refine x_g ?_; intro g w1 hg hf H; (try clear hf))
 rw [show ((n : Int) + 1).toNat = n + 1 by omega] at H ⊢
 rw [zeros_limbs] at H
 go_loopw [11, 12, 13] (fun s11 s12 s13 wr => ∃ (i bo cy : Nat) (o : List Nat), i ≤ n + 1 ∧ s13 = .int .i64 (i : Int) ∧ s11 = .int .u64 (bo : Int) ∧ s12 = .int .u64 (cy : Int) ∧ bo ≤ 1 ∧ cy < 4294967296 ∧ Hid (o.length = n + 1) ∧ Hid (Lim o) ∧ (i = n + 1 → cy = 0) ∧ Hid (val (o.take i) + G * val (v.take i) = val (seg.take i) + 4294967296 ^ i * (cy + bo)) ∧ Hp [g1] w wr [.blk g (limbs o) 99, .blk g1 (limbs (pre ++ seg ++ post) ++ pad) 99, .rng b1 off1 (limbs v)]) (fun _ _ z _ => n + 1 - (intOf z).toNat)
 case atStart => exact ⟨0, 0, 0, List.replicate (n + 1) 0, Nat.zero_le _, rfl, rfl, rfl, by decide, by decide, hid List.length_replicate, hid (Lim.zeros _), fun _ => rfl, hid (by simp [val]), H⟩
 case round =>
  clear H
  obtain ⟨i, bo, cy, o, hi, rfl, rfl, rfl, hbo, hcy, Hol, Hlo, hc0, Hinv, H⟩ := hrel
  by_cases hin : i < n
  ·obtain ⟨y, hy⟩ : ∃ y, v[i]? = some y := ⟨_, List.getElem?_eq_getElem (by rw [Hv.out]; exact hin)⟩
   obtain ⟨x, hx⟩ : ∃ x, seg[i]? = some x := ⟨_, List.getElem?_eq_getElem (by rw [Hs.out]; omega)⟩
   have hyv := limbs_at hy
   have hyB := lv.at hy
   have hxB := ls.at hx
   have Hx := hid hx
   have Hy := hid hy
   have hA := pre_at (pad := pad) (segv_at (pre := pre) (post := post) Hj.out hx)
   rw [show j + i = ((i : Int) + (j : Int)).toNat by omega] at hA
   have hll : ((i : Int) + (j : Int)).toNat < ln := by omega
   have hoi : i < (limbs o).length := by rw [limbs_len, Hol.out]; omega
   obtain ⟨t, ht⟩ : ∃ t, G * y + cy = t := ⟨_, rfl⟩
   have h1 : G * y ≤ 4294967295 * 4294967295 := Nat.mul_le_mul (by omega) (by omega)
   have ht64 : t < 18446744073709551616 := by omega
   have E1 : Hid (IntKind.u64.wrap ((cy : Int) + IntKind.u64.wrap ((G : Int) * (y : Int))) = (t : Int)) := hid (by
    have e : IntKind.u64.wrap ((G : Int) * (y : Int)) = ((G * y : Nat) : Int) := wrapN _ (by rw [Int.natCast_mul]) (by omega)
    rw [e]
    exact wrapN t (by rw [← ht, Int.natCast_add, Int.add_comm]) ht64)
   have E2 : Hid (bits .and .u64 (t : Int) 4294967295 = ((t % 4294967296 : Nat) : Int)) := hid (by rw [and_low32 _ (by omega) (by omega)]; omega)
   obtain ⟨dd, b', f1, _, f3, f4, f5, f6⟩ := sub_word (Z := IntKind.u64.wrap ((x : Int) - (bo : Int)) - ((t % 4294967296 : Nat) : Int)) (x := x) (y := t % 4294967296) (bo := bo) (by rw [IntKind.wrap_u64]; omega) hxB (Nat.mod_lt _ (by decide)) hbo
   have F1 := hid f1
   have F3 := hid f3
   have F6 := hid f6
   have Ht := hid ht
   have hcy2 : t / 4294967296 < 4294967296 := by omega
   clear f1 f3 f6 hx hy ht h1
   go_wp2_with (first | refine x_q H ?_ | refine x_e (ev_high rfl rfl) ?_ | refine x_e (ev_top rfl rfl) ?_ | (revert H; refine x_s ?_; intro w1 hf H; (try clear hf)))
   rw [E1.out, E2.out, F1.out, limbs_set] at H
   go_roundw
   case rel => exact ⟨i + 1, b', t / 4294967296, o.set i dd, by omega, by go_num, by rw [E1.out, E2.out, F3.out], by rw [E1.out]; rw [show (t : Int) / 4294967296 = ((t / 4294967296 : Nat) : Int) by omega], f4, hcy2, hid (by rw [List.length_set]; exact Hol.out), hid (Hlo.out.set _ f5), fun h => absurd h (by omega), hid (by
    rw [take_set_succ _ _ _ (by rw [Hol.out]; omega), val_snoc, List.length_take, Hol.out, Nat.min_eq_left (by omega), val_take_succ Hx.out, val_take_succ Hy.out]
    exact take_round Hinv.out (by rw [Ht.out]; omega) F6.out), H⟩
   case measure => (simp [intOf]; try omega)
  ·by_cases hin2 : i < n + 1
   ·have ei : i = n := by omega
    obtain ⟨x, hx⟩ : ∃ x, seg[i]? = some x := ⟨_, List.getElem?_eq_getElem (by rw [Hs.out]; omega)⟩
    have hxB := ls.at hx
    have Hx := hid hx
    have hA := pre_at (pad := pad) (segv_at (pre := pre) (post := post) Hj.out hx)
    rw [show j + i = ((i : Int) + (j : Int)).toNat by omega] at hA
    have hll : ((i : Int) + (j : Int)).toNat < ln := by omega
    have hoi : i < (limbs o).length := by rw [limbs_len, Hol.out]; omega
    have E2 : Hid ((cy : Int) % 4294967296 = (cy : Int)) := hid (by omega)
    obtain ⟨dd, b', f1, _, f3, f4, f5, f6⟩ := sub_word (Z := IntKind.u64.wrap ((x : Int) - (bo : Int)) - (cy : Int)) (x := x) (y := cy) (bo := bo) (by rw [IntKind.wrap_u64]; omega) hxB hcy hbo
    have F1 := hid f1
    have F3 := hid f3
    have F6 := hid f6
    have hcy0 : Hid ((cy : Int) / 4294967296 = ((0 : Nat) : Int)) := hid (by omega)
    have Ei := hid ei
    clear f1 f3 f6 hx ei
    go_wp2_with (first | refine x_q H ?_ | refine x_e (ev_low rfl rfl) ?_ | refine x_e (ev_high rfl rfl) ?_ | refine x_e (ev_top rfl rfl) ?_ | (revert H; refine x_s ?_; intro w1 hf H; (try clear hf)))
    rw [E2.out, F1.out, limbs_set] at H
    go_roundw
    case rel => exact ⟨i + 1, b', 0, o.set i dd, by omega, by go_num, by rw [E2.out, F3.out], by rw [hcy0.out], f4, by decide, hid (by rw [List.length_set]; exact Hol.out), hid (Hlo.out.set _ f5), fun _ => rfl, hid (by
     rw [take_set_succ _ _ _ (by rw [Hol.out]; omega), val_snoc, List.length_take, Hol.out, Nat.min_eq_left (by omega), val_take_succ Hx.out, take_over (l := v) (by rw [Hv.out, Ei.out]; exact Nat.le_refl _)]
     have h1 := take_round (x := 0) Hinv.out (c' := 0) (p := cy) (by omega) F6.out
     rw [Nat.mul_zero, Nat.add_zero] at h1
     exact h1), H⟩
    case measure => (simp [intOf]; try omega)
   ·have ei : i = n + 1 := by omega
    have HF : Hid (val o + G * val v = val seg + 4294967296 ^ (n + 1) * bo) := hid (by
     have h1 := Hinv.out
     rw [ei, hc0 ei, Nat.zero_add, List.take_of_length_le (by rw [Hol.out]; exact Nat.le_refl _), List.take_of_length_le (by rw [Hv.out]; omega), List.take_of_length_le (by rw [Hs.out]; exact Nat.le_refl _)] at h1
     exact h1)
    clear Hinv hc0 ei
    by_cases hb0 : bo = 0
    ·subst hb0
     have HT : Hid (G * val v ≤ val seg) := hid (by have := HF.out; rw [Nat.mul_zero] at this; omega)
     have HO2 : Hid (val o = val seg - G * val v) := hid (by have := HF.out; rw [Nat.mul_zero] at this; omega)
     go_wp2_with (refine x_q H ?_)
     go_loopw [15] (fun s15 wr => ∃ (i : Nat), i ≤ n + 1 ∧ s15 = .int .i64 (i : Int) ∧ Hp [g1] w wr [.blk g (limbs o) 99, .blk g1 (limbs (pre ++ (o.take i ++ seg.drop i) ++ post) ++ pad) 99, .rng b1 off1 (limbs v)]) (fun z _ => n + 1 - (intOf z).toNat)
     case atStart => exact ⟨0, Nat.zero_le _, rfl, H⟩
     case round =>
      clear H
      obtain ⟨i, hi, rfl, H⟩ := hrel
      by_cases hin : i < n + 1
      ·obtain ⟨x, hx⟩ : ∃ x, o[i]? = some x := ⟨_, List.getElem?_eq_getElem (by rw [Hol.out]; omega)⟩
       obtain ⟨y, hy⟩ : ∃ y, seg[i]? = some y := ⟨_, List.getElem?_eq_getElem (by rw [Hs.out]; omega)⟩
       have hxv := limbs_at hx
       have Hx := hid hx
       have hdl : (o.take i).length = i := by rw [List.length_take, Hol.out]; omega
       have Hdl := hid hdl
       rw [drop_cons_at hy] at H
       have hst0 : ((i : Int) + (j : Int)).toNat < (limbs (pre ++ (o.take i ++ y :: seg.drop (i + 1)) ++ post)).length := by
        rw [limbs_len]
        have := Hj.out
        simp only [List.length_append, List.length_cons]
        omega
       have hst : ((i : Int) + (j : Int)).toNat < (limbs (pre ++ (o.take i ++ y :: seg.drop (i + 1)) ++ post) ++ pad).length := by
        rw [List.length_append]
        omega
       have Hst0 := hid hst0
       clear hst0
       have hll : ((i : Int) + (j : Int)).toNat < ln := by omega
       clear hx hy hdl
       go_wp2_with (first | refine x_q H ?_ | (revert H; refine x_s ?_; intro w1 hf H; (try clear hf)))
       rw [List.set_append_left _ _ Hst0.out, limbs_set, mid_set (by rw [Hdl.out, Hj.out]; omega)] at H
       go_roundw
       case rel => exact ⟨i + 1, by omega, by go_num, by rw [List.take_add_one, Hx.out]; exact H⟩
       case measure => (simp [intOf]; try omega)
      ·have ei : i = n + 1 := by omega
       rw [ei, List.take_of_length_le (by rw [Hol.out]; exact Nat.le_refl _), List.drop_eq_nil_of_le (by rw [Hs.out]; exact Nat.le_refl _), List.append_nil] at H
       clear ei
       go_wp2_with (refine x_q H ?_)
       go_ret
       exact ⟨o, by rw [decide_eq_true HT.out]; rfl, H.fr, Hol.out, Hlo.out, by rw [if_pos HT.out]; exact HO2.out, fun h => absurd HT.out h, H.at g1⟩
    ·have hb1 : 0 < bo := Nat.pos_of_ne_zero hb0
     have HT : Hid (¬ G * val v ≤ val seg) := hid (fun hle => by
      have h1 := HF.out
      have h2 := val_lt Hlo.out
      rw [Hol.out, show bo = 1 by omega, Nat.mul_one] at *
      omega)
     clear hb0
     go_wp2_with (refine x_q H ?_)
     go_ret
     exact ⟨seg, by rw [decide_eq_false HT.out]; rfl, H.fr, Hs.out, ls, by rw [if_neg HT.out], fun _ => rfl, H.at g1⟩
section
variable {P : Program} {w : World} {a : Act} {o : Oper}
theorem ev_shlW {t t' : TypeId} {x y : Operand} (ho : o.op = .binOp .shl t x y t') {k kk : IntKind} {m p : Int} (hx : a.eval x = .int k m) (hy : a.eval y = .int kk p) (hp : 0 ≤ p) : (execOp a.eval o).run P w = .ok (.value (.int k (k.wrap (m * 2 ^ min p.toNat k.bits)))) w := by
 have e1 : (eqGuard .shl t x y (.int k m) (.int kk p)).run P w = .ok () w := by unfold eqGuard; simp
 unfold execOp
 simp only [ho, hx, hy, Sem.run_bind, e1, Result.andThen_ok, binOp]
 rw [shift_shl_any _ _ _ _ hp]
 rfl
theorem ev_andW {t t' : TypeId} {x y : Operand} (ho : o.op = .binOp .and t x y t') {m n : Int} (hx : a.eval x = .int .u32 m) (hy : a.eval y = .int .u32 n) : (execOp a.eval o).run P w = .ok (.value (.int .u32 (bits .and .u32 m n))) w :=
 ev_bin ho hx hy (fun w => by
  show (pure (Value.int .u32 (bits .and .u32 m n)) : Sem Value).run P w = _
  rfl)
theorem ev_neqD {t t' : TypeId} {x y : Operand} (ho : o.op = .binOp .neq t x y t') {k : IntKind} {m n : Int} (hx : a.eval x = .int k m) (hy : a.eval y = .int k n) : (execOp a.eval o).run P w = .ok (.value (.bool (decide (m ≠ n)))) w := by
 by_cases h : m ≠ n
 ·rw [decide_eq_true h]
  exact ev_cmpT ho hx hy rfl (by simp only [cmpP]; exact h)
 ·rw [decide_eq_false h]
  exact ev_cmpF ho hx hy rfl (by simp only [cmpP]; exact h)
end
theorem shr_two {x y : Nat} (s : Nat) : ((x : Int) + (y : Int) * 4294967296) / 2 ^ s % 4294967296 = (((x + y * 4294967296) / 2 ^ s % 4294967296 : Nat) : Int) := by
 have e : ((x : Int) + (y : Int) * 4294967296) / 2 ^ s = (((x + y * 4294967296) / 2 ^ s : Nat) : Int) := by
  rw [Int.natCast_ediv, Int.natCast_pow]; congr 1
 rw [e]; omega
theorem shr_one {x : Nat} (s : Nat) : (x : Int) / 2 ^ s % 4294967296 = ((x / 2 ^ s % 4294967296 : Nat) : Int) := by
 have e : (x : Int) / 2 ^ s = ((x / 2 ^ s : Nat) : Int) := by
  rw [Int.natCast_ediv, Int.natCast_pow]; congr 1
 rw [e]; omega
theorem snoc_upto {o : List Nat} {i d : Nat} {f : Nat → Nat} (hl : o.length = i) (h : ∀ j y, o[j]? = some y → y = f j) (hd : d = f i) : ∀ j y, (o ++ [d])[j]? = some y → y = f j := by
 intro j y hy
 by_cases e : j < i
 ·rw [List.getElem?_append_left (by omega)] at hy
  exact h j y hy
 ·have h1 := (List.getElem?_eq_some_iff.1 hy).1
  rw [List.length_append, List.length_cons, List.length_nil] at h1
  have e2 : j = i := by omega
  subst e2
  rw [List.getElem?_append_right (by omega), hl, Nat.sub_self] at hy
  injection hy with hy
  rw [← hy, hd]
theorem dig0 {l : List Nat} (h : Lim l) {q i Z : Nat} (hq : q < 32) (hz : val (l.drop i) % 18446744073709551616 = Z) : Z / 2 ^ q % 4294967296 = val l / 2 ^ q / 4294967296 ^ i % 4294967296 := by
 have h1 := down_dig h (W := 0) (q := q) (i := i) (Z := Z) hq (by rw [Nat.zero_add]; exact hz)
 rw [Nat.pow_zero, Nat.one_mul] at h1
 exact h1.symm
set_option maxHeartbeats 8000000 in
theorem shr_small {w : World} {p : Option Addr} {n c : Nat} (a : List Nat) (s : Nat) (hn : a.length = n) (hn0 : n ≤ 1000000) (hs : s ≤ 31) (h : LR w p c a) :
  Calls Tryz.prog 134 #[.slice p n c, .int .i64 (s : Int)] w fun e w' => ∃ p' c' o lost, e = .returned (.tuple #[.slice p' n c', .bool lost]) ∧ Fr [] w w' ∧ LR w' p' c' o ∧ o.length = n ∧ val o = val a / 2 ^ s := by
 subst hn
 have Hh := hid h
 obtain ⟨hlc, hcc⟩ := h.clen
 clear h
 have H := (Hp.start [] w).newRow 0 (e := 99) (sz := 1)
 have hW0 : (s : Int) / 32 = 0 := by omega
 have hQ0 : (s : Int) % 32 = (s : Int) := by omega
 go_enter Tryz.func134, Tryz.ntmps134
 go_wp2_with fail
 go_loopw [6, 7] (fun s6 s7 wr => s6 = .bool false ∧ s7 = .int .i64 0 ∧ Hp [] w wr [.obj 0 [] (RowAt 99 1 (.slice none 0 0) 0 [] [])]) (fun _ _ _ => 0)
 case atStart => exact ⟨rfl, rfl, H⟩
 case round =>
  clear H
  obtain ⟨rfl, rfl, H⟩ := hrel
  go_wp2_with (refine x_q H ?_)
  rw [hW0, hQ0]
  go_loopw [6, 8, 10] (fun s6 s8 s10 wr => ∃ (i : Nat) (o : List Nat) (lost : Bool) (pv : Value) (S : List Nat), i ≤ a.length ∧ s10 = .int .i64 (i : Int) ∧ s6 = .bool lost ∧ s8 = pv ∧ Hid (o.length = i) ∧ Hid (Lim o) ∧ Hid (∀ j y, o[j]? = some y → y = val a / 2 ^ s / 4294967296 ^ j % 4294967296) ∧ Hp [] w wr [.obj 0 S (RowAt 99 1 pv i (limbs o) S)]) (fun _ _ v _ => a.length - (intOf v).toNat)
  case atStart => exact ⟨0, [], false, _, _, Nat.zero_le _, rfl, rfl, rfl, hid rfl, hid Lim.nil, hid (fun j y h => by simp at h), H⟩
  case round =>
   clear H
   obtain ⟨i, o, lost, pv, S, hi, rfl, rfl, hpv, Hol, Hlo, Hv, H⟩ := hrel
   obtain ⟨p5, c5, he, _, hc5, _⟩ := (H.rowo 0).form
   unfold maxLen at hc5
   subst he
   subst hpv
   by_cases hin : i < a.length
   ·obtain ⟨x, hx⟩ : ∃ x, a[i]? = some x := ⟨_, List.getElem?_eq_getElem hin⟩
    have hxv := limbs_at hx
    have hxB := Hh.out.lim.at hx
    have Hx := hid hx
    clear hx
    obtain ⟨b0, off, rfl, hb0, hcell⟩ := Hh.out.rd.rng (limbs_ne (i := i) hin)
    have H1 := H.pushRng (b := b0) (off := off) hb0 (by simp) hcell
    clear H hcell
    have H := H1
    clear H1
    by_cases hin2 : i + 1 < a.length
    ·obtain ⟨y, hy⟩ : ∃ y, a[i + 1]? = some y := ⟨_, List.getElem?_eq_getElem hin2⟩
     have hyv := limbs_at hy
     have hyB := Hh.out.lim.at hy
     have Hy := hid hy
     clear hy
     go_wp2_with (first | refine x_q H ?_ | refine x_e (ev_over rfl rfl) ?_ | refine x_e (ev_orK rfl rfl rfl) ?_)
     by_cases hi0 : i = 0
     ·(revert H; refine w_p 15 (.st 0 (.st 1 (.st 2 (.st 3 (.st 4 (.st 5 (.st 6 (.st 7 (.st 8 (.st 9 (.st 10 (.st 11 (.st 12 (.st 13 (.st 14 .done))))))))))))))) ?_; intro w1 H)
      iterate 5 refine p_q ?_
      iterate 5 (first | refine p_q ?_ | refine p_n ?_)
      (refine p_e rfl (fun w H => ev_shlW rfl rfl rfl (by omega)) ?_)
      (refine p_e rfl (fun w H => ev_subW rfl rfl rfl) ?_)
      (refine p_e rfl (fun w H => ev_andW rfl rfl rfl) ?_)
      (refine p_e rfl (fun w H => ev_neqD rfl rfl rfl) ?_)
      refine p_q ?_
      (refine pl_done ?_)
      all_goals
       go_wp2_with (first | refine x_q H ?_ | (refine is_blt (b := .append) rfl ?_; go_loud (refine wl_rw rfl (fun K hK => c_aprS H rfl rfl rfl 0 (H.rd (b := g) (off := 0) (vs := [.int .u32 (((x : Int) + (y : Int) * 4294967296) / 2 ^ s % 4294967296)]) List.prefix_rfl) rfl (by intro u hu; simp only [List.mem_singleton] at hu; subst hu; rfl) (by omega) (by unfold maxLen; omega) (fun p1 c1 w1 S' hf H1 => hK _ _ ?_))); (clear hK K); (clear H; have H := H1; clear H1; (try dsimp only at H); (try clear hf)); (simp only [nrm, ↓reduceIte, Nat.reduceAdd])) | (revert H; refine x_g ?_; intro g w1 hg hf H; (try clear hf)))
      all_goals
       rw [shr_two s, limbs_snoc] at H
       go_roundw
       case rel => exact ⟨i + 1, o ++ [(x + y * 4294967296) / 2 ^ s % 4294967296], _, _, S', by omega, by go_num, rfl, rfl, hid (by rw [List.length_append, Hol.out]; rfl), hid (Hlo.out.app (Lim.cons (Nat.mod_lt _ (by decide)) Lim.nil)), hid (snoc_upto (f := fun j => val a / 2 ^ s / 4294967296 ^ j % 4294967296) Hol.out Hv.out (dig0 Hh.out.lim (by omega) (drop_two Hh.out.lim Hx.out Hy.out))), H.sub (by repeat first | exact List.Sublist.refl _ | exact List.nil_sublist _ | apply List.Sublist.cons_cons | apply List.Sublist.cons)⟩
       case measure => (simp [intOf]; try omega)
     ·(revert H; refine w_p 15 (.st 0 (.st 1 (.st 2 (.st 3 (.st 4 (.st 5 (.st 6 (.st 7 (.st 8 (.st 9 (.st 10 (.st 11 (.st 12 (.st 13 (.st 14 .done))))))))))))))) ?_; intro w1 H)
      iterate 5 refine p_q ?_
      iterate 5 (first | refine p_q ?_ | refine p_n ?_)
      (refine pl_no rfl rfl ?_; (simp only [nrm, ↓reduceIte, Nat.reduceAdd]))
      (refine pl_no rfl rfl ?_; (simp only [nrm, ↓reduceIte, Nat.reduceAdd]))
      (refine pl_no rfl rfl ?_; (simp only [nrm, ↓reduceIte, Nat.reduceAdd]))
      (first | refine p_q ?_ | refine p_n ?_)
      refine p_q ?_
      (refine pl_done ?_)
      all_goals
       go_wp2_with (first | refine x_q H ?_ | (refine is_blt (b := .append) rfl ?_; go_loud (refine wl_rw rfl (fun K hK => c_aprS H rfl rfl rfl 0 (H.rd (b := g) (off := 0) (vs := [.int .u32 (((x : Int) + (y : Int) * 4294967296) / 2 ^ s % 4294967296)]) List.prefix_rfl) rfl (by intro u hu; simp only [List.mem_singleton] at hu; subst hu; rfl) (by omega) (by unfold maxLen; omega) (fun p1 c1 w1 S' hf H1 => hK _ _ ?_))); (clear hK K); (clear H; have H := H1; clear H1; (try dsimp only at H); (try clear hf)); (simp only [nrm, ↓reduceIte, Nat.reduceAdd])) | (revert H; refine x_g ?_; intro g w1 hg hf H; (try clear hf)))
      all_goals
       rw [shr_two s, limbs_snoc] at H
       go_roundw
       case rel => exact ⟨i + 1, o ++ [(x + y * 4294967296) / 2 ^ s % 4294967296], _, _, S', by omega, by go_num, rfl, rfl, hid (by rw [List.length_append, Hol.out]; rfl), hid (Hlo.out.app (Lim.cons (Nat.mod_lt _ (by decide)) Lim.nil)), hid (snoc_upto (f := fun j => val a / 2 ^ s / 4294967296 ^ j % 4294967296) Hol.out Hv.out (dig0 Hh.out.lim (by omega) (drop_two Hh.out.lim Hx.out Hy.out))), H.sub (by repeat first | exact List.Sublist.refl _ | exact List.nil_sublist _ | apply List.Sublist.cons_cons | apply List.Sublist.cons)⟩
       case measure => (simp [intOf]; try omega)
    ·go_wp2_with (refine x_q H ?_)
     by_cases hi0 : i = 0
     ·(revert H; refine w_p 15 (.st 0 (.st 1 (.st 2 (.st 3 (.st 4 (.st 5 (.st 6 (.st 7 (.st 8 (.st 9 (.st 10 (.st 11 (.st 12 (.st 13 (.st 14 .done))))))))))))))) ?_; intro w1 H)
      iterate 5 refine p_q ?_
      iterate 5 (first | refine p_q ?_ | refine p_n ?_)
      (refine p_e rfl (fun w H => ev_shlW rfl rfl rfl (by omega)) ?_)
      (refine p_e rfl (fun w H => ev_subW rfl rfl rfl) ?_)
      (refine p_e rfl (fun w H => ev_andW rfl rfl rfl) ?_)
      (refine p_e rfl (fun w H => ev_neqD rfl rfl rfl) ?_)
      refine p_q ?_
      (refine pl_done ?_)
      all_goals
       go_wp2_with (first | refine x_q H ?_ | (refine is_blt (b := .append) rfl ?_; go_loud (refine wl_rw rfl (fun K hK => c_aprS H rfl rfl rfl 0 (H.rd (b := g) (off := 0) (vs := [.int .u32 ((x : Int) / 2 ^ s % 4294967296)]) List.prefix_rfl) rfl (by intro u hu; simp only [List.mem_singleton] at hu; subst hu; rfl) (by omega) (by unfold maxLen; omega) (fun p1 c1 w1 S' hf H1 => hK _ _ ?_))); (clear hK K); (clear H; have H := H1; clear H1; (try dsimp only at H); (try clear hf)); (simp only [nrm, ↓reduceIte, Nat.reduceAdd])) | (revert H; refine x_g ?_; intro g w1 hg hf H; (try clear hf)))
      all_goals
       rw [shr_one s, limbs_snoc] at H
       go_roundw
       case rel => exact ⟨i + 1, o ++ [x / 2 ^ s % 4294967296], _, _, S', by omega, by go_num, rfl, rfl, hid (by rw [List.length_append, Hol.out]; rfl), hid (Hlo.out.app (Lim.cons (Nat.mod_lt _ (by decide)) Lim.nil)), hid (snoc_upto (f := fun j => val a / 2 ^ s / 4294967296 ^ j % 4294967296) Hol.out Hv.out (dig0 Hh.out.lim (by omega) (drop_one Hh.out.lim Hx.out (by omega)))), H.sub (by repeat first | exact List.Sublist.refl _ | exact List.nil_sublist _ | apply List.Sublist.cons_cons | apply List.Sublist.cons)⟩
       case measure => (simp [intOf]; try omega)
     ·(revert H; refine w_p 15 (.st 0 (.st 1 (.st 2 (.st 3 (.st 4 (.st 5 (.st 6 (.st 7 (.st 8 (.st 9 (.st 10 (.st 11 (.st 12 (.st 13 (.st 14 .done))))))))))))))) ?_; intro w1 H)
      iterate 5 refine p_q ?_
      iterate 5 (first | refine p_q ?_ | refine p_n ?_)
      (refine pl_no rfl rfl ?_; (simp only [nrm, ↓reduceIte, Nat.reduceAdd]))
      (refine pl_no rfl rfl ?_; (simp only [nrm, ↓reduceIte, Nat.reduceAdd]))
      (refine pl_no rfl rfl ?_; (simp only [nrm, ↓reduceIte, Nat.reduceAdd]))
      (first | refine p_q ?_ | refine p_n ?_)
      refine p_q ?_
      (refine pl_done ?_)
      all_goals
       go_wp2_with (first | refine x_q H ?_ | (refine is_blt (b := .append) rfl ?_; go_loud (refine wl_rw rfl (fun K hK => c_aprS H rfl rfl rfl 0 (H.rd (b := g) (off := 0) (vs := [.int .u32 ((x : Int) / 2 ^ s % 4294967296)]) List.prefix_rfl) rfl (by intro u hu; simp only [List.mem_singleton] at hu; subst hu; rfl) (by omega) (by unfold maxLen; omega) (fun p1 c1 w1 S' hf H1 => hK _ _ ?_))); (clear hK K); (clear H; have H := H1; clear H1; (try dsimp only at H); (try clear hf)); (simp only [nrm, ↓reduceIte, Nat.reduceAdd])) | (revert H; refine x_g ?_; intro g w1 hg hf H; (try clear hf)))
      all_goals
       rw [shr_one s, limbs_snoc] at H
       go_roundw
       case rel => exact ⟨i + 1, o ++ [x / 2 ^ s % 4294967296], _, _, S', by omega, by go_num, rfl, rfl, hid (by rw [List.length_append, Hol.out]; rfl), hid (Hlo.out.app (Lim.cons (Nat.mod_lt _ (by decide)) Lim.nil)), hid (snoc_upto (f := fun j => val a / 2 ^ s / 4294967296 ^ j % 4294967296) Hol.out Hv.out (dig0 Hh.out.lim (by omega) (drop_one Hh.out.lim Hx.out (by omega)))), H.sub (by repeat first | exact List.Sublist.refl _ | exact List.nil_sublist _ | apply List.Sublist.cons_cons | apply List.Sublist.cons)⟩
       case measure => (simp [intOf]; try omega)
   ·have ei : i = a.length := by omega
    have hval : val o = val a / 2 ^ s := by
     have h1 := digits_val Hv.out
     have h2 := val_lt Hh.out.lim
     have h3 := Nat.div_le_self (val a) (2 ^ s)
     rw [h1, Hol.out, ei]
     exact Nat.mod_eq_of_lt (by omega)
    have Hval := hid hval
    have Ei := hid ei
    clear hval ei
    go_wp2_with (refine x_q H ?_)
    obtain ⟨p6, c6, e6, e7, hL⟩ := LR.of_row (H.rowo 0) Hlo.out
    injection e6 with e61 e62 e63
    subst e61 e63
    refine bodyPost_ret (results_tmp2 rfl _ _ _) rfl ?_
    exact ⟨_, _, o, _, by rw [← Ei.out]; rfl, H.fr, hL, by rw [Hol.out, Ei.out], Hval.out⟩
end Go.Proofs.YthbeeeclgbpopaaGreatDoor
