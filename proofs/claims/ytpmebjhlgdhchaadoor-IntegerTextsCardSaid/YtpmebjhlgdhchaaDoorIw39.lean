/-
  The document's integers: a multiple is taken off.
-/
import Derived.Test.YtpmebjhlgdhchaaDoorIw38
import Derived.Deep.DeepCutAuto
import Derived.Deep.CutBlock
namespace Go.Proofs.YtpmebjhlgdhchaaDoor
open Go.RowKit
set_option linter.unusedSimpArgs false
set_option linter.unusedVariables false
set_option maxHeartbeats 4000000
set_option maxRecDepth 100000
/-- What the subtraction of a multiple gives. -/
def TakeP (g n G V : Nat) (pre seg post : List Nat) (pad : List Value) (e : Ending) (w w' : World) : Prop := ∃ seg' : List Nat, e = .returned (.bool (decide (G * V ≤ val seg))) ∧ Fr [g] w w' ∧ seg'.length = n + 1 ∧ Lim seg' ∧ val seg' = (if G * V ≤ val seg then val seg - G * V else val seg) ∧ (¬ G * V ≤ val seg → seg' = seg) ∧ w'.heap[g]? = some (.cells (limbs (pre ++ seg' ++ post) ++ pad).toArray 54 (0, 0))
set_option maxHeartbeats 8000000 in
theorem take_any {w : World} {g j ln cap n c G : Nat} {pre seg post v : List Nat} {pad : List Value} {pv : Option Addr}
    (hg : w.heap[g]? = some (.cells (limbs (pre ++ seg ++ post) ++ pad).toArray 54 (0, 0))) (hj : pre.length = j) (hs : seg.length = n + 1) (hv : v.length = n) (hn : n ≤ 1000000) (hj0 : j ≤ 1000000) (hln : (pre ++ seg ++ post).length = ln) (hlc : ln ≤ cap) (hcap2 : cap ≤ 9223372036854775807)
    (ls : Lim seg) (hG : G < 4294967296) (hr : LR w pv c v) (hne : ∀ b off, pv = some ⟨b, off, none⟩ → b ≠ g) (hn1 : 1 ≤ n) :
    Calls Tryd.prog 84 #[.slice (some ⟨g, 0, none⟩) ln cap, .slice pv n c, .int .i64 (j : Int), .int .u64 (G : Int)] w fun e w' => TakeP g n G (val v) pre seg post pad e w w' := by
  obtain ⟨hlc1, hc⟩ := hr.clen
  have lv := hr.lim
  obtain ⟨b1, off1, rfl, hb1, hcell⟩ := hr.rd.rng (limbs_ne (i := 0) (by omega))
  have hb1g : b1 ≠ g := hne _ _ rfl
  have H : Hp [g] w w [.blk g (limbs (pre ++ seg ++ post) ++ pad) 54, .rng b1 off1 (limbs v)] := by
    have K := (Hp.start [g] w).pushRng (b := b1) (off := off1) hb1 (by simpa using hb1g) hcell
    exact K.push hg (.inl (by simp)) (by simp [Ent.own])
  rw [hv] at hlc1
  have Hs := hid hs
  have Hv := hid hv
  have Hj := hid hj
  have hln1 : j + n + 1 ≤ ln := by rw [← hln, List.length_append, List.length_append, hj, hs]; omega
  have Hln := hid hln
  clear hne hb1g hcell hr hg hs hv hj hln
  obtain ⟨g1, hg1⟩ : ∃ g1, g1 = g := ⟨g, rfl⟩
  subst hg1
  go_enter Tryd.func84, Tryd.ntmps84
  go_wp2_with (first | refine x_q H ?_ | refine x_cm (fun h => ?_) (fun h => ?_) | (revert H; (first | (refine x_g ?_; intro g w1 hg hf H) | (refine x_s ?_; intro w1 hf H)); (try clear hf)))
  rw [show ((n : Int) + 1).toNat = n + 1 by omega] at H ⊢
  rw [zeros_limbs] at H
  go_loopw [11, 12, 13] (fun s11 s12 s13 wr => ∃ (i bo cy : Nat) (o : List Nat), i ≤ n + 1 ∧ s13 = .int .i64 (i : Int) ∧ s11 = .int .u64 (bo : Int) ∧ s12 = .int .u64 (cy : Int) ∧ bo ≤ 1 ∧ cy < 4294967296 ∧ Hid (o.length = n + 1) ∧ Hid (Lim o) ∧ (i = n + 1 → cy = 0) ∧ Hid (val (o.take i) + G * val (v.take i) = val (seg.take i) + 4294967296 ^ i * (cy + bo)) ∧ Hp [g1] w wr [.blk g (limbs o) 54, .blk g1 (limbs (pre ++ seg ++ post) ++ pad) 54, .rng b1 off1 (limbs v)]) (fun _ _ z _ => n + 1 - (intOf z).toNat)
  case atStart => exact ⟨0, 0, 0, List.replicate (n + 1) 0, Nat.zero_le _, rfl, rfl, rfl, by decide, by decide, hid List.length_replicate, hid (Lim.zeros _), fun _ => rfl, hid (by simp [val]), H⟩
  case round =>
    clear H
    obtain ⟨i, bo, cy, o, hi, rfl, rfl, rfl, hbo, hcy, Hol, Hlo, hc0, Hinv, H⟩ := hrel
    by_cases hin : i < n
    · obtain ⟨y, hy⟩ : ∃ y, v[i]? = some y := ⟨_, List.getElem?_eq_getElem (by rw [Hv.out]; exact hin)⟩
      obtain ⟨x, hx⟩ : ∃ x, seg[i]? = some x := ⟨_, List.getElem?_eq_getElem (by rw [Hs.out]; omega)⟩
      have hyv := limbs_at hy
      have hyB := lv.at hy
      have hxB := ls.at hx
      have Hx := hid hx
      have Hy := hid hy
      have hA := pre_at (pad := pad) (segv_at (pre := pre) (post := post) Hj.out hx)
      rw [show j + i = ((i : Int) + (j : Int)).toNat by omega] at hA
      have hll : ((i : Int) + (j : Int)).toNat < ln := by omega
      have hoi : i < (limbs o).length := by rw [limbs_len, Hol.out]; omega
      obtain ⟨t, ht⟩ : ∃ t, G * y + cy = t := ⟨_, rfl⟩
      have h1 : G * y ≤ 4294967295 * 4294967295 := Nat.mul_le_mul (by omega) (by omega)
      have ht64 : t < 18446744073709551616 := by omega
      have E1 : Hid (IntKind.u64.wrap ((cy : Int) + IntKind.u64.wrap ((G : Int) * (y : Int))) = (t : Int)) := hid (by
        have e : IntKind.u64.wrap ((G : Int) * (y : Int)) = ((G * y : Nat) : Int) := wrapN _ (by rw [Int.natCast_mul]) (by omega)
        rw [e]
        exact wrapN t (by rw [← ht, Int.natCast_add, Int.add_comm]) ht64)
      have E2 : Hid (bits .and .u64 (t : Int) 4294967295 = ((t % 4294967296 : Nat) : Int)) := hid (by rw [and_low32 _ (by omega) (by omega)]; omega)
      obtain ⟨dd, b', f1, _, f3, f4, f5, f6⟩ := sub_word (Z := IntKind.u64.wrap ((x : Int) - (bo : Int)) - ((t % 4294967296 : Nat) : Int)) (x := x) (y := t % 4294967296) (bo := bo) (by rw [IntKind.wrap_u64]; omega) hxB (Nat.mod_lt _ (by decide)) hbo
      have F1 := hid f1
      have F3 := hid f3
      have F6 := hid f6
      have Ht := hid ht
      have hcy2 : t / 4294967296 < 4294967296 := by omega
      clear f1 f3 f6 hx hy ht h1
      go_wp2_with (first | refine x_q H ?_ | refine x_cm (fun h => ?_) (fun h => ?_) | refine x_e (ev_low rfl rfl) ?_ | refine x_e (ev_bit rfl rfl) ?_ | refine x_e (ev_high rfl rfl) ?_ | refine x_e (ev_top rfl rfl) ?_ | (revert H; (first | (refine x_g ?_; intro g w1 hg hf H) | (refine x_s ?_; intro w1 hf H)); (try clear hf)))
      rw [E1.out, E2.out, F1.out, limbs_set] at H
      go_roundw
      case rel => exact ⟨i + 1, b', t / 4294967296, o.set i dd, by omega, by go_num, by rw [E1.out, E2.out, F3.out], by rw [E1.out]; rw [show (t : Int) / 4294967296 = ((t / 4294967296 : Nat) : Int) by omega], f4, hcy2, hid (by rw [List.length_set]; exact Hol.out), hid (Hlo.out.set _ f5), fun h => absurd h (by omega), hid (by
        rw [take_set_succ _ _ _ (by rw [Hol.out]; omega), val_snoc, List.length_take, Hol.out, Nat.min_eq_left (by omega), val_take_succ Hx.out, val_take_succ Hy.out]
        exact take_round Hinv.out (by rw [Ht.out]; omega) F6.out), H⟩
      case measure => (simp [intOf]; try omega)
    · by_cases hin2 : i < n + 1
      · have ei : i = n := by omega
        obtain ⟨x, hx⟩ : ∃ x, seg[i]? = some x := ⟨_, List.getElem?_eq_getElem (by rw [Hs.out]; omega)⟩
        have hxB := ls.at hx
        have Hx := hid hx
        have hA := pre_at (pad := pad) (segv_at (pre := pre) (post := post) Hj.out hx)
        rw [show j + i = ((i : Int) + (j : Int)).toNat by omega] at hA
        have hll : ((i : Int) + (j : Int)).toNat < ln := by omega
        have hoi : i < (limbs o).length := by rw [limbs_len, Hol.out]; omega
        have E2 : Hid ((cy : Int) % 4294967296 = (cy : Int)) := hid (by omega)
        obtain ⟨dd, b', f1, _, f3, f4, f5, f6⟩ := sub_word (Z := IntKind.u64.wrap ((x : Int) - (bo : Int)) - (cy : Int)) (x := x) (y := cy) (bo := bo) (by rw [IntKind.wrap_u64]; omega) hxB hcy hbo
        have F1 := hid f1
        have F3 := hid f3
        have F6 := hid f6
        have hcy0 : Hid ((cy : Int) / 4294967296 = ((0 : Nat) : Int)) := hid (by omega)
        have Ei := hid ei
        clear f1 f3 f6 hx ei
        go_wp2_with (first | refine x_q H ?_ | refine x_cm (fun h => ?_) (fun h => ?_) | refine x_e (ev_low rfl rfl) ?_ | refine x_e (ev_bit rfl rfl) ?_ | refine x_e (ev_high rfl rfl) ?_ | refine x_e (ev_top rfl rfl) ?_ | (revert H; (first | (refine x_g ?_; intro g w1 hg hf H) | (refine x_s ?_; intro w1 hf H)); (try clear hf)))
        rw [E2.out, F1.out, limbs_set] at H
        go_roundw
        case rel => exact ⟨i + 1, b', 0, o.set i dd, by omega, by go_num, by rw [E2.out, F3.out], by rw [hcy0.out], f4, by decide, hid (by rw [List.length_set]; exact Hol.out), hid (Hlo.out.set _ f5), fun _ => rfl, hid (by
          rw [take_set_succ _ _ _ (by rw [Hol.out]; omega), val_snoc, List.length_take, Hol.out, Nat.min_eq_left (by omega), val_take_succ Hx.out, take_over (l := v) (by rw [Hv.out, Ei.out]; exact Nat.le_refl _)]
          have h1 := take_round (x := 0) Hinv.out (c' := 0) (p := cy) (by omega) F6.out
          rw [Nat.mul_zero, Nat.add_zero] at h1
          exact h1), H⟩
        case measure => (simp [intOf]; try omega)
      · have ei : i = n + 1 := by omega
        have HF : Hid (val o + G * val v = val seg + 4294967296 ^ (n + 1) * bo) := hid (by
          have h1 := Hinv.out
          rw [ei, hc0 ei, Nat.zero_add, List.take_of_length_le (by rw [Hol.out]; exact Nat.le_refl _), List.take_of_length_le (by rw [Hv.out]; omega), List.take_of_length_le (by rw [Hs.out]; exact Nat.le_refl _)] at h1
          exact h1)
        clear Hinv hc0 ei
        by_cases hb0 : bo = 0
        · subst hb0
          have HT : Hid (G * val v ≤ val seg) := hid (by have := HF.out; rw [Nat.mul_zero] at this; omega)
          have HO2 : Hid (val o = val seg - G * val v) := hid (by have := HF.out; rw [Nat.mul_zero] at this; omega)
          go_wp2_with (first | refine x_q H ?_ | refine x_cm (fun h => ?_) (fun h => ?_) | (revert H; (first | (refine x_g ?_; intro g w1 hg hf H) | (refine x_s ?_; intro w1 hf H)); (try clear hf)))
          go_loopw [15] (fun s15 wr => ∃ (i : Nat), i ≤ n + 1 ∧ s15 = .int .i64 (i : Int) ∧ Hp [g1] w wr [.blk g (limbs o) 54, .blk g1 (limbs (pre ++ (o.take i ++ seg.drop i) ++ post) ++ pad) 54, .rng b1 off1 (limbs v)]) (fun z _ => n + 1 - (intOf z).toNat)
          case atStart => exact ⟨0, Nat.zero_le _, rfl, H⟩
          case round =>
            clear H
            obtain ⟨i, hi, rfl, H⟩ := hrel
            by_cases hin : i < n + 1
            · obtain ⟨x, hx⟩ : ∃ x, o[i]? = some x := ⟨_, List.getElem?_eq_getElem (by rw [Hol.out]; omega)⟩
              obtain ⟨y, hy⟩ : ∃ y, seg[i]? = some y := ⟨_, List.getElem?_eq_getElem (by rw [Hs.out]; omega)⟩
              have hxv := limbs_at hx
              have Hx := hid hx
              have hdl : (o.take i).length = i := by rw [List.length_take, Hol.out]; omega
              have Hdl := hid hdl
              rw [drop_cons_at hy] at H
              have hst0 : ((i : Int) + (j : Int)).toNat < (limbs (pre ++ (o.take i ++ y :: seg.drop (i + 1)) ++ post)).length := by
                rw [limbs_len]
                have := Hj.out
                simp only [List.length_append, List.length_cons]
                omega
              have hst : ((i : Int) + (j : Int)).toNat < (limbs (pre ++ (o.take i ++ y :: seg.drop (i + 1)) ++ post) ++ pad).length := by
                rw [List.length_append]
                omega
              have Hst0 := hid hst0
              clear hst0
              have hll : ((i : Int) + (j : Int)).toNat < ln := by omega
              clear hx hy hdl
              go_wp2_with (first | refine x_q H ?_ | refine x_cm (fun h => ?_) (fun h => ?_) | (revert H; (first | (refine x_g ?_; intro g w1 hg hf H) | (refine x_s ?_; intro w1 hf H)); (try clear hf)))
              rw [List.set_append_left _ _ Hst0.out, limbs_set, mid_set (by rw [Hdl.out, Hj.out]; omega)] at H
              go_roundw
              case rel => exact ⟨i + 1, by omega, by go_num, by rw [List.take_add_one, Hx.out]; exact H⟩
              case measure => (simp [intOf]; try omega)
            · have ei : i = n + 1 := by omega
              rw [ei, List.take_of_length_le (by rw [Hol.out]; exact Nat.le_refl _), List.drop_eq_nil_of_le (by rw [Hs.out]; exact Nat.le_refl _), List.append_nil] at H
              clear ei
              go_wp2_with (first | refine x_q H ?_ | refine x_cm (fun h => ?_) (fun h => ?_) | (revert H; (first | (refine x_g ?_; intro g w1 hg hf H) | (refine x_s ?_; intro w1 hf H)); (try clear hf)))
              go_ret
              exact ⟨o, by rw [decide_eq_true HT.out]; rfl, H.fr, Hol.out, Hlo.out, by rw [if_pos HT.out]; exact HO2.out, fun h => absurd HT.out h, H.at g1⟩
        · have hb1 : 0 < bo := Nat.pos_of_ne_zero hb0
          have HT : Hid (¬ G * val v ≤ val seg) := hid (fun hle => by
            have h1 := HF.out
            have h2 := val_lt Hlo.out
            rw [Hol.out, show bo = 1 by omega, Nat.mul_one] at *
            omega)
          clear hb0
          go_wp2_with (first | refine x_q H ?_ | refine x_cm (fun h => ?_) (fun h => ?_) | (revert H; (first | (refine x_g ?_; intro g w1 hg hf H) | (refine x_s ?_; intro w1 hf H)); (try clear hf)))
          go_ret
          exact ⟨seg, by rw [decide_eq_false HT.out]; rfl, H.fr, Hs.out, ls, by rw [if_neg HT.out], fun _ => rfl, H.at g1⟩
end Go.Proofs.YtpmebjhlgdhchaaDoor
