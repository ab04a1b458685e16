/-
  The integers: Int where the number is none.
-/
import Derived.Test.YtpmebjhlgdhchaaDoorIw32
import Derived.Test.YtpmebjhlgdhchaaDoorIw8
namespace Go.Proofs.YtpmebjhlgdhchaaDoor
open Go.RowKit
set_option linter.unusedSimpArgs false
set_option linter.unusedVariables false
set_option maxHeartbeats 8000000
set_option maxRecDepth 100000
theorem x_n {P : Program} {ops : Array Oper} {Q : Exit → Act → World → Prop} {w : World} {rest : List Oper} {o : Oper} {L : List Value} {ds : List Deferred} {L' : List Value} (h : wpList P ops Q rest ⟨L'.toArray, ds⟩ w)
    (hw : Region.wanted o (yielded ops L.toArray) = false := by rfl) (hs : putL L o.dst undef = L' := by ((try simp only [nrm, putL_s, putL_n, ↓reduceIte, Nat.reduceAdd]); (try exact rfl))) : wpList P ops Q (o :: rest) ⟨L.toArray, ds⟩ w := by
  subst hs; exact wl_no hw (by rw [put_eq]; exact h)
theorem int_out {w : World} {p : Option Addr} {n c : Nat} (neg : Bool) (l : List Nat) (hl : l.length = n) (hn : n ≤ 1000000) (h : LR w p c l) (h2 : ¬ 2 < (digs (val l)).length) (hz : ¬ (-9223372036854775808 ≤ zv neg l ∧ zv neg l ≤ 9223372036854775807)) :
    Calls Tryd.prog 18 #[.agg #[.bool neg, .slice p n c]] w fun e w' => e = .returned (intV (zv neg l)) ∧ Fr [] w w' := by
  subst hl
  have Hh := hid h
  have hA := hid (h.trim)
  have Hz := hid hz
  clear hz
  have hzv : Hid (zv neg l = if neg then -((val l : Nat) : Int) else (val l : Int)) := hid rfl
  have H := Hp.start [] w
  clear h
  obtain ⟨A, hAe⟩ : ∃ A, val l = A := ⟨_, rfl⟩
  have Hv := hid hAe
  rw [hAe] at hzv hA h2
  clear hAe
  have hA64 := two_lt (digs_lim A) (by omega)
  rw [val_digs] at hA64
  go_enter Tryd.func18, Tryd.ntmps18
  go_wp2_with (first | refine x_q H ?_ | refine x_cm (fun h => ?_) (fun h => ?_) | (revert H; (first | (refine x_g ?_; intro g w1 hg hf H) | (refine x_s ?_; intro w1 hf H)); (try clear hf)))
  (refine x_c H (trim_any l rfl (Hh.out.fr H.fr)) ?_; clear H; rintro e w1 ⟨rfl, hF⟩ H; skip)
  rw [Hv.out]
  go_wp2_with (first | refine x_q H ?_ | refine x_cm (fun h => ?_) (fun h => ?_) | (revert H; (first | (refine x_g ?_; intro g w1 hg hf H) | (refine x_s ?_; intro w1 hf H)); (try clear hf)))
  go_loopw [5, 16] (fun s5 s16 wr => ∃ i u : Nat, i ≤ (digs A).length ∧ s16 = .int .i64 (i : Int) ∧ s5 = .int .u64 (u : Int) ∧ Hid (u = val ((digs A).take i)) ∧ Hp [] w wr [.blk g [.bool neg, .slice p l.length c] 24]) (fun _ v _ => (digs A).length - (intOf v).toNat)
  case atStart => exact ⟨0, 0, Nat.zero_le _, rfl, rfl, hid rfl, H⟩
  case round =>
    clear H
    obtain ⟨i, u, hi, rfl, rfl, Hu, H⟩ := hrel
    by_cases hin : i < (digs A).length
    · obtain ⟨x, hx⟩ : ∃ x, (digs A)[i]? = some x := ⟨_, List.getElem?_eq_getElem hin⟩
      have hxv := limbs_at hx
      have hxB := hA.out.lim.at hx
      have Hx := hid hx
      obtain ⟨b0, off, rfl, hb0, hcell⟩ := hA.out.rd.rng (limbs_ne (i := i) hin)
      have H1 := H.pushRng (b := b0) (off := off) hb0 (by simp) hcell
      clear H hcell
      have H := H1
      clear H1
      have hi1 : i ≤ 1 := by omega
      obtain ⟨z, hz⟩ : ∃ z, x * 4294967296 ^ i = z := ⟨_, rfl⟩
      have hsum : Hid (val ((digs A).take (i + 1)) = u + z) := hid (by rw [val_take_succ hx, ← Hu.out, ← hz, Nat.mul_comm])
      have hS64 : u + z < 18446744073709551616 := by
        rw [← hsum.out]
        exact two_lt ((digs_lim A).take _) (by rw [List.length_take]; omega)
      have hz64 : z < 18446744073709551616 := by omega
      have hor : bits .or .u64 (u : Int) (z : Int) = ((u + z : Nat) : Int) := or_nat64 (s := 32 * i) (x := x) (by
        rw [Hu.out, ← powB]
        have h1 := val_lt ((digs_lim A).take i)
        rwa [List.length_take, Nat.min_eq_left hi] at h1) (by rw [← hz, powB]) hS64
      have HOR : Hid (bits .or .u64 (u : Int) (IntKind.u64.wrap ((x : Int) * 2 ^ (32 * i))) = ((u + z : Nat) : Int)) := hid (by
        rw [wrapN z (by rw [← hz, powB, Int.natCast_mul, Int.natCast_pow]; rfl) hz64, hor])
      clear hx hor hz
      go_wp2_with (first | refine x_q H ?_ | refine x_cm (fun h => ?_) (fun h => ?_) | (revert H; (first | (refine x_g ?_; intro g w1 hg hf H) | (refine x_s ?_; intro w1 hf H)); (try clear hf)))
      go_roundw
      case rel => exact ⟨i + 1, u + z, by omega, by go_num, by rw [HOR.out], hid hsum.out.symm, H.sub (by repeat first | exact List.Sublist.refl _ | exact List.nil_sublist _ | apply List.Sublist.cons_cons | apply List.Sublist.cons)⟩
      case measure => (simp [intOf]; try omega)
    · have hu : u = A := by rw [Hu.out, List.take_of_length_le (by omega), val_digs]
      subst hu
      have hii : i = (digs u).length := by omega
      have h3 := hzv.out
      have BAD := hid (show (Value.tuple #[.int .i64 0, .bool false]) = intV (zv neg l) by rw [intV, if_neg Hz.out])
      have HZ := hid (show ¬ (-9223372036854775808 ≤ (if neg then -((u : Nat) : Int) else (u : Int)) ∧ (if neg then -((u : Nat) : Int) else (u : Int)) ≤ 9223372036854775807) by rw [← h3]; exact Hz.out)
      clear h3 hzv hii
      cases neg
      · have h63 : 9223372036854775808 ≤ u := by have := HZ.out; simp at this; omega
        go_upto_region 12 with (first | refine x_q H ?_ | refine x_cm (fun h => ?_) (fun h => ?_) | (revert H; (first | (refine x_g ?_; intro g w1 hg hf H) | (refine x_s ?_; intro w1 hf H)); (try clear hf)))
        refine wp_region_lit ?_
        refine x_e (ev_moveT rfl rfl) ?_
        refine x_q H ?_
        refine x_e (ev_moveT rfl rfl) ?_
        refine x_n ?_
        refine x_n ?_
        refine x_n ?_
        refine x_n ?_
        refine x_n ?_
        refine x_n ?_
        refine x_n ?_
        refine x_e (ev_pickFC rfl rfl) ?_
        refine x_e (ev_assignT rfl rfl) ?_
        refine wpList_nil ?_
        go_wp2_with (first | refine x_q H ?_ | refine x_cm (fun h => ?_) (fun h => ?_) | (revert H; (first | (refine x_g ?_; intro g w1 hg hf H) | (refine x_s ?_; intro w1 hf H)); (try clear hf)))
        ((try simp only [Exit.inBlock, Exit.then]); refine bodyPost_ret (results_tmp2 rfl _ _ _) rfl ?_)
        refine ⟨?_, H.fr⟩
        rw [← BAD.out]; rfl
      · have h63 : 9223372036854775808 < u := by have := HZ.out; simp at this; omega
        go_upto_region 12 with (first | refine x_q H ?_ | refine x_cm (fun h => ?_) (fun h => ?_) | (revert H; (first | (refine x_g ?_; intro g w1 hg hf H) | (refine x_s ?_; intro w1 hf H)); (try clear hf)))
        refine wp_region_lit ?_
        refine x_e (ev_moveT rfl rfl) ?_
        refine x_q H ?_
        refine x_e (ev_moveT rfl rfl) ?_
        refine x_n ?_
        refine x_n ?_
        refine x_n ?_
        refine x_n ?_
        refine x_n ?_
        refine x_n ?_
        refine x_n ?_
        refine x_e (ev_pickFC rfl rfl) ?_
        refine x_e (ev_assignT rfl rfl) ?_
        refine wpList_nil ?_
        go_wp2_with (first | refine x_q H ?_ | refine x_cm (fun h => ?_) (fun h => ?_) | (revert H; (first | (refine x_g ?_; intro g w1 hg hf H) | (refine x_s ?_; intro w1 hf H)); (try clear hf)))
        ((try simp only [Exit.inBlock, Exit.then]); refine bodyPost_ret (results_tmp2 rfl _ _ _) rfl ?_)
        refine ⟨?_, H.fr⟩
        rw [← BAD.out]; rfl
theorem int_all {w : World} {p : Option Addr} {n c : Nat} (neg : Bool) (l : List Nat) (hl : l.length = n) (hn : n ≤ 1000000) (h : LR w p c l) :
    Calls Tryd.prog 18 #[.agg #[.bool neg, .slice p n c]] w fun e w' => e = .returned (intV (zv neg l)) ∧ Fr [] w w' := by
  by_cases h2 : 2 < (digs (val l)).length
  · exact int_any neg l hl hn h (.inl h2)
  · by_cases hz : -9223372036854775808 ≤ zv neg l ∧ zv neg l ≤ 9223372036854775807
    · exact int_any neg l hl hn h (.inr hz)
    · exact int_out neg l hl hn h h2 hz
end Go.Proofs.YtpmebjhlgdhchaaDoor
