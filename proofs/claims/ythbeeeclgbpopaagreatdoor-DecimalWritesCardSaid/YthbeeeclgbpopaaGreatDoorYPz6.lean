import Derived.Test.YthbeeeclgbpopaaGreatDoorYPz3
import Derived.Test.YthbeeeclgbpopaaGreatDoorYPd0
import Derived.Test.YthbeeeclgbpopaaGreatDoorYIz6
import Derived.Test.YthbeeeclgbpopaaGreatDoorYFa5
namespace Go.Proofs.YthbeeeclgbpopaaGreatDoor
open Go.RowKit
set_option linter.unusedSimpArgs false
set_option linter.unusedVariables false
set_option maxHeartbeats 16000000
set_option maxRecDepth 100000
section
variable {T : List Nat} {w0 w : World} {l : List Ent}
theorem Hp.rowBlk (H : Hp T w0 w l) (k : Nat) {S : List Nat} {e : TypeId} {sz n : Nat} {v : Value} {xs : List Value} {f : Ent → List Ent} [i : Oi k S (RowAt e sz v n xs S) l f] (hn : n ≠ 0) : ∃ g cap pad, S = [g] ∧ v = .slice (some ⟨g, 0, none⟩) n cap ∧ n ≤ cap ∧ cap ≤ maxLen ∧ (xs ++ pad).length = cap * sz ∧ Hp T w0 w (f (.blk g (xs ++ pad) e)) := by
 obtain ⟨h0, ⟨rfl, h1, _⟩ | ⟨g, cap, pad, rfl, rfl, h2, h3, h4, h5⟩⟩ := H.ob k
 ·exact absurd h1 hn
 ·exact ⟨g, cap, pad, rfl, rfl, h2, h3, h4, H.recast (i.h _) rfl ⟨h5, H.home k g (by simp)⟩⟩
theorem Hp.blkRowN {g : Nat} {e : TypeId} {xs pad : List Value} (H : Hp T w0 w (.blk g (xs ++ pad) e :: l)) (k : Nat) {n cap : Nat} (hx : xs.length = n * 1) (hn : n ≤ cap) (hc : cap ≤ maxLen) (hl : (xs ++ pad).length = cap * 1) : Hp T w0 w (.obj k [g] (RowAt e 1 (.slice (some ⟨g, 0, none⟩) n cap) n xs [g]) :: l) :=
 H.recast (Rep.head l) rfl ⟨⟨hx, .inr ⟨g, cap, pad, rfl, rfl, hn, hc, hl, (H.ok _ (.head _)).1⟩⟩, RowAt.firm, by simpa using (H.ok _ (.head _)).2⟩
end
theorem ten_round {A M P cc x d : Nat} (h : A + P * cc = 10 * M + d) : A + P * ((cc + 10 * x) % 4294967296) + (P * 4294967296) * ((cc + 10 * x) / 4294967296) = 10 * (M + P * x) + d := by
 have e := Nat.mod_add_div (cc + 10 * x) 4294967296
 have e1 : P * ((cc + 10 * x) % 4294967296) + (P * 4294967296) * ((cc + 10 * x) / 4294967296) = P * cc + 10 * (P * x) := by
  rw [Nat.mul_assoc, ← Nat.mul_add, e, Nat.mul_add, Nat.mul_left_comm]
 rw [Nat.add_assoc, e1]
 omega
theorem limbs_pad {o : List Nat} {pad : List Value} {j x : Nat} (h : o[j]? = some x) : (limbs o ++ pad)[j]? = some (.int .u32 (x : Int)) := by
 rw [List.getElem?_append_left (by rw [limbs_len]; exact (List.getElem?_eq_some_iff.1 h).1)]
 exact limbs_at h
theorem limbs_pad_set {o : List Nat} {pad : List Value} {j x : Nat} (h : j < o.length) : (limbs o ++ pad).set j (.int .u32 (x : Int)) = limbs (o.set j x) ++ pad := by
 rw [List.set_append_left _ _ (by rw [limbs_len]; exact h), limbs_set]
theorem rparse_any (w : World) (s : List UInt8) (hs : s.length ≤ 1000000) :
  Calls Tryz.prog 110 #[strV s] w fun e w' => ∃ v1, e = .returned (.tuple #[v1, .int .i64 (pz s).2]) ∧ Fr [] w w' ∧ Bv w' v1 (pz s).1 1024 := by
 have H := (Hp.start [] w).newRow 0 (e := 99) (sz := 1)
 by_cases hl : 1024 < s.length
 ·have HZ : Hid (pz s = (0, 2)) := hid (by unfold pz; rw [if_pos hl])
  go_enter Tryz.func110, Tryz.ntmps110
  go_wp2_with (first | refine x_q H ?_ | refine x_e (ev_strLen rfl rfl) ?_ | (revert H; refine xSB ?_; intro w1 H hk) | (revert H; refine x_g ?_; intro g w1 hg hf H; replace hf := hf.kp))
  refine c_postCT H rfl rfl rfl rfl ?_
  rw [HZ.out]
  exact ⟨_, rfl, H.fr, (bv_zero _).mono (Nat.zero_le _)⟩
 ·have hl2 : s.length ≤ 1024 := by omega
  clear hl
  by_cases hs0 : s.length ≤ 0
  ·have HZ : Hid (pz s = (0, 7)) := hid (by rw [List.eq_nil_of_length_eq_zero (show s.length = 0 by omega)]; decide)
   go_enter Tryz.func110, Tryz.ntmps110
   go_wp2_with (first | refine x_q H ?_ | refine x_e (ev_strLen rfl rfl) ?_ | (revert H; refine xSB ?_; intro w1 H hk) | (revert H; refine x_g ?_; intro g w1 hg hf H; replace hf := hf.kp))
   refine c_postCT H rfl rfl rfl rfl ?_
   rw [HZ.out]
   exact ⟨_, rfl, H.fr, (bv_zero _).mono (Nat.zero_le _)⟩
  ·have hs1 : 1 ≤ s.length := by omega
   clear hs0
   obtain ⟨x, hx⟩ : ∃ x, s[0]? = some x := ⟨_, List.getElem?_eq_getElem (by omega)⟩
   have hx0 : s[(0 : Int).toNat]? = some x := hx
   have hhd : s.head? = some x := by rw [List.head?_eq_getElem?]; exact hx
   have hxn : x.toNat < 256 := x.toNat_lt
   obtain ⟨b, hb⟩ : ∃ b, body s = b := ⟨_, rfl⟩
   have HZ : Hid (b = [] ∨ b.all dig = false → pz s = (0, 7)) := hid (fun h => by unfold pz; rw [if_neg (by omega), hb, if_pos h])
   have HV : Hid (b ≠ [] → b.all dig = true → pz s = (sg (sgn s) (num b), 0)) := hid (fun e1 e2 => by unfold pz; rw [if_neg (by omega), hb, if_neg (by rintro (h | h); exact e1 h; rw [e2] at h; cases h)])
   have hu : ∀ k : Nat, k < 256 → (x.toNat = k ↔ x = UInt8.ofNat k) := fun k hk => by
    constructor
    ·intro h; rw [← h, UInt8.ofNat_toNat]
    ·intro h; rw [h, UInt8.toNat_ofNat']; exact Nat.mod_eq_of_lt hk
   by_cases h1 : x.toNat = 45
   ·have HS : Hid (sgn s = true) := hid (by unfold sgn; rw [hhd, (hu 45 (by decide)).1 h1]; rfl)
    have HB : Hid (s.drop 1 = b) := hid (by rw [← hb]; unfold body; rw [if_pos (.inl (by rw [hhd, (hu 45 (by decide)).1 h1]; rfl)), List.drop_one])
    have hxa : (x.toNat : Int) ≤ 45 := by omega
    have hxb : (45 : Int) ≤ (x.toNat : Int) := by omega
    clear hx hhd hu h1 hb
    have hbl : b.length + 1 = s.length := by rw [← HB.out, List.length_drop]; omega
    by_cases hb0 : b.length ≤ 0
    ·have HZ2 := hid (HZ.out (.inl (List.eq_nil_of_length_eq_zero (by omega))))
     go_enter Tryz.func110, Tryz.ntmps110
     go_wp2_with (first | refine x_q H ?_ | refine x_e (ev_strIdx rfl rfl rfl (by omega) (by assumption)) ?_ | refine x_e (ev_strLen rfl rfl) ?_ | (revert H; refine xSB ?_; intro w1 H hk) | (revert H; refine x_g ?_; intro g w1 hg hf H; replace hf := hf.kp))
     refine c_postCT H rfl rfl rfl rfl ?_
     rw [HZ2.out]
     exact ⟨_, rfl, H.fr, (bv_zero _).mono (Nat.zero_le _)⟩
    ·have hb1 : 1 ≤ b.length := by omega
     have HbN : Hid (b ≠ []) := hid (fun e => by rw [e] at hb1; simp at hb1)
     clear hb0
     go_enter Tryz.func110, Tryz.ntmps110
     go_wp2_with (first | refine x_q H ?_ | refine x_e (ev_strIdx rfl rfl rfl (by omega) (by assumption)) ?_ | refine x_e (ev_strLen rfl rfl) ?_ | (revert H; refine x_g ?_; intro g w1 hg hf H; replace hf := hf.kp))
     go_loopw [4, 6, 7, 8] (fun s4 s6 s7 s8 wr => ∃ (i : Nat) (pre rest : List UInt8) (ml : List Nat) (pv : Value) (S : List Nat), i ≤ s.length ∧ s4 = .int .i64 (i : Int) ∧ s6 = pv ∧ Hid (i = 1 + pre.length) ∧ Hid (b = pre ++ rest) ∧ Hid (pre.all dig = true) ∧ Hid (val ml = num pre) ∧ Hid (Lim ml) ∧ ml.length ≤ pre.length ∧ pre.length ≤ 1024 ∧ Hp [] w wr [.obj 0 S (RowAt 99 1 pv ml.length (limbs ml) S), .blk g [.bool false, .slice none 0 0] 50]) (fun v _ _ _ _ => s.length - (intOf v).toNat)
     case atStart => exact ⟨1, [], b, [], _, _, by omega, rfl, rfl, hid rfl, hid rfl, hid rfl, hid rfl, hid Lim.nil, Nat.le_refl _, Nat.zero_le _, by (refine Hp.arr H ?_; repeat (first | exact Pm.nil _ | (apply Pm.cons; · (repeat first | exact Rm.here _ | apply Rm.there))))⟩
     case round =>
      clear H
      obtain ⟨i, pre, rest, ml, pv, S, hi, rfl, hpv, Hi, Hb, Hpd, Hvm, Hlm, hml, hpl, H⟩ := hrel
      obtain ⟨p5, c5, he, _, hc5, _⟩ := (H.rowo 0).form
      unfold maxLen at hc5
      subst he
      subst hpv
      have hle : pre.length + rest.length = b.length := by rw [Hb.out, List.length_append]
      by_cases hin : i < s.length
      ·obtain ⟨c, r', hr'⟩ : ∃ c r', rest = c :: r' := by
        cases rest with
        | nil => have := Hi.out; simp at hle; omega
        | cons c r' => exact ⟨c, r', rfl⟩
       have hcx : s[(i : Int).toNat]? = some c := by
        rw [Int.toNat_natCast, Hi.out, ← List.getElem?_drop, HB.out, Hb.out, hr']
        simp
       by_cases hd : dig c = true
       ·have hd1 := dig_le hd
        have HR := hid hr'
        clear hr'
        go_wp2_with (first | refine x_q H ?_ | refine x_e (ev_strIdx rfl rfl rfl (by omega) (by assumption)) ?_ | refine x_e (ev_strLen rfl rfl) ?_)
        obtain ⟨d, hdd⟩ : ∃ d, c.toNat - 48 = d := ⟨_, rfl⟩
        have hd9 : d ≤ 9 := by omega
        rw [show ((c.toNat : Int) - 48) = (d : Int) by omega]
        have HN2 : Hid (num (pre ++ [c]) = 10 * num pre + d) := hid (by rw [num_app, num_one, hdd, List.length_cons, List.length_nil, Nat.zero_add, Nat.pow_one, Nat.mul_comm])
        have Hb2 : Hid (b = (pre ++ [c]) ++ r') := hid (by rw [Hb.out, HR.out]; simp)
        have Hd2 : Hid ((pre ++ [c]).all dig = true) := hid (by rw [List.all_append, Hpd.out]; simp [hd])
        have Hi2 : Hid (i + 1 = 1 + (pre ++ [c]).length) := hid (by have := Hi.out; rw [List.length_append, List.length_cons, List.length_nil]; omega)
        have hpl2 : (pre ++ [c]).length ≤ 1024 := by have h := congrArg List.length Hb2.out; rw [List.length_append] at h; omega
        have hpl3 : (pre ++ [c]).length = pre.length + 1 := by rw [List.length_append]; rfl
        clear hd hd1 hdd Hi Hpd
        by_cases hml0 : ml.length ≤ 0
        ·have hmn : ml = [] := List.eq_nil_of_length_eq_zero (by omega)
         have HVo : Hid (val ml + 4294967296 ^ ml.length * d = 10 * val ml + d) := hid (by rw [hmn]; simp [val])
         have Hol : Hid (ml.length = ml.length) := hid rfl
         clear hmn
         go_loopw [7, 8] (fun s7 s8 wr2 => s7 = .int .u64 (d : Int) ∧ s8 = .int .i64 0 ∧ Hp [] w wr2 [.obj 0 S (RowAt 99 1 (.slice p5 ml.length c5) ml.length (limbs ml) S), .blk g [.bool false, .slice none 0 0] 50]) (fun _ _ _ => 0)
         case atStart => exact ⟨rfl, rfl, H⟩
         case round =>
          clear H
          obtain ⟨rfl, rfl, H⟩ := hrel
          by_cases hcz : d ≤ 0
          ·have HVm : Hid (val ml = num (pre ++ [c])) := hid (by
            have h := HVo.out
            have h2 := HN2.out
            have h3 := Hvm.out
            have e : 4294967296 ^ (ml).length * d = 0 := by rw [show d = 0 by omega, Nat.mul_zero]
            rw [e] at h
            omega)
           go_wp2_with (refine x_q H ?_)
           go_roundw
           case rel => exact ⟨i + 1, pre ++ [c], r', ml, _, _, by omega, by go_num, rfl, Hi2, Hb2, Hd2, HVm, Hlm, by have := Hol.out; omega, hpl2, by first | exact H | (rw [Hol.out]; exact H)⟩
           case measure => (simp [intOf]; try omega)
          ·have HVm : Hid (val (ml ++ [d]) = num (pre ++ [c])) := hid (by rw [val_snoc, HVo.out, HN2.out, Hvm.out])
           have hlen : (ml ++ [d]).length = ml.length + 1 := by rw [List.length_append, Hol.out]; rfl
           have Hln := hid hlen
           clear hlen
           go_wp2_with (first | refine x_q H ?_ | (refine is_blt (b := .append) rfl ?_; go_loud (refine wl_rw rfl (fun K hK => c_aprS H rfl rfl rfl 0 (H.rd (b := g) (off := 0) (vs := [.int .u32 ((d : Int))]) List.prefix_rfl) rfl (by intro u hu; simp only [List.mem_singleton] at hu; subst hu; rfl) (by omega) (by unfold maxLen; omega) (fun p1 c1 w1 S' hf H1 => hK _ _ ?_))); (clear hK K); (clear H; have H := H1; clear H1; (try dsimp only at H); (first | replace hf := hf.kp | clear hf)); (simp only [nrm, ↓reduceIte, Nat.reduceAdd])) | (revert H; refine x_g ?_; intro g w1 hg hf H; replace hf := hf.kp))
           rw [limbs_snoc] at H
           go_roundw
           case rel => exact ⟨i + 1, pre ++ [c], r', ml ++ [d], _, _, by omega, by go_num, rfl, Hi2, Hb2, Hd2, HVm, hid (Hlm.out.app (Lim.cons (by omega) Lim.nil)), by rw [Hln.out]; omega, hpl2, by rw [Hln.out]; (refine Hp.arr H ?_; repeat (first | exact Pm.nil _ | (apply Pm.cons; · (repeat first | exact Rm.here _ | apply Rm.there))))⟩
           case measure => (simp [intOf]; try omega)
        ·obtain ⟨gb, cap, pad, hS, hv, hn1, hcap, hpq, H1⟩ := H.rowBlk 0 (show ml.length ≠ 0 by omega)
         injection hv with e1 e2 e3
         subst e1 e3
         clear H hS e2
         have H := H1
         clear H1
         go_loopw [7, 8] (fun s7 s8 wr2 => ∃ (j cc : Nat) (o : List Nat), j ≤ ml.length ∧ s7 = .int .u64 (cc : Int) ∧ s8 = .int .i64 (j : Int) ∧ cc ≤ 10 ∧ Hid (o.length = ml.length) ∧ Hid (Lim o) ∧ Hid (o.drop j = ml.drop j) ∧ Hid (val (o.take j) + 4294967296 ^ j * cc = 10 * val (ml.take j) + d) ∧ Hp [] w wr2 [.blk gb (limbs o ++ pad) 99, .blk g [.bool false, .slice none 0 0] 50]) (fun _ v _ => ml.length - (intOf v).toNat)
         case atStart => exact ⟨0, d, ml, Nat.zero_le _, rfl, rfl, by omega, hid rfl, Hlm, hid rfl, hid (by simp [val]), H⟩
         case round =>
          clear H
          obtain ⟨j, cc, o, hj, rfl, rfl, hcc, Hol, Hlo, Hod, Hva, H⟩ := hrel
          by_cases hjn : j < ml.length
          ·obtain ⟨x', hx'⟩ : ∃ x', ml[j]? = some x' := ⟨_, List.getElem?_eq_getElem hjn⟩
           have hxo : o[j]? = some x' := by
            have h := congrArg (fun l => l[0]?) Hod.out
            simp only [List.getElem?_drop, Nat.add_zero] at h
            rw [h]; exact hx'
           have hjo : j < o.length := by rw [Hol.out]; exact hjn
           have hxp := limbs_pad (pad := pad) hxo
           have hxB := Hlm.out.at hx'
           have Hx := hid hx'
           have hpq2 : o.length + pad.length ≤ 4611686018427387904 + o.length + pad.length := by omega
           have hin3 : j < (limbs o ++ pad).length := by rw [List.length_append, limbs_len]; omega
           clear hx' hxo hpq2
           go_wp2_with (first | refine x_q H ?_ | refine x_e (ev_high rfl rfl) ?_ | (revert H; refine x_s ?_; intro w1 hf H; clear hf))
           have e1 : ((cc : Int) + 10 * (x' : Int)) % 4294967296 = (((cc + 10 * x') % 4294967296 : Nat) : Int) := by omega
           have e2 : ((cc : Int) + 10 * (x' : Int)) / 4294967296 = (((cc + 10 * x') / 4294967296 : Nat) : Int) := by omega
           rw [e1, limbs_pad_set hjo] at H
           rw [e2]
           clear e1 e2
           go_roundw
           case rel => exact ⟨j + 1, (cc + 10 * x') / 4294967296, o.set j ((cc + 10 * x') % 4294967296), by omega, rfl, by go_num, by omega, hid (by rw [List.length_set]; exact Hol.out), hid (Hlo.out.set j (Nat.mod_lt _ (by decide))), hid (by
            have h := congrArg (List.drop 1) Hod.out
            rw [List.drop_drop, List.drop_drop] at h
            rw [List.drop_set_of_lt (by omega)]
            exact h), hid (by rw [take_set_succ _ _ _ hjo, val_snoc, List.length_take, Nat.min_eq_left (by omega), val_take_succ Hx.out, Nat.pow_succ]; exact ten_round Hva.out), H⟩
           case measure => (simp [intOf]; try omega)
          ·have hjn2 : j = ml.length := by omega
           have HVo : Hid (val o + 4294967296 ^ o.length * cc = 10 * val ml + d) := hid (by
            have h := Hva.out
            rw [hjn2, List.take_of_length_le (by rw [Hol.out]; exact Nat.le_refl _), List.take_of_length_le (Nat.le_refl _)] at h
            rw [Hol.out]; exact h)
           have H1 := H.blkRowN 0 (n := ml.length) (cap := c5) (by rw [limbs_len, Hol.out, Nat.mul_one]) hn1 hcap (by have := hpq; rw [List.length_append, limbs_len] at this ⊢; rw [Hol.out]; exact this)
           have hjn3 : ml.length ≤ j := by omega
           clear H hjn hjn2
           have H := H1
           clear H1
           by_cases hcz : cc ≤ 0
           ·have HVm : Hid (val o = num (pre ++ [c])) := hid (by
             have h := HVo.out
             have h2 := HN2.out
             have h3 := Hvm.out
             have e : 4294967296 ^ (o).length * cc = 0 := by rw [show cc = 0 by omega, Nat.mul_zero]
             rw [e] at h
             omega)
            go_wp2_with (refine x_q H ?_)
            go_roundw
            case rel => exact ⟨i + 1, pre ++ [c], r', o, _, _, by omega, by go_num, rfl, Hi2, Hb2, Hd2, HVm, Hlo, by have := Hol.out; omega, hpl2, by first | exact H | (rw [Hol.out]; exact H)⟩
            case measure => (simp [intOf]; try omega)
           ·have HVm : Hid (val (o ++ [cc]) = num (pre ++ [c])) := hid (by rw [val_snoc, HVo.out, HN2.out, Hvm.out])
            have hlen : (o ++ [cc]).length = ml.length + 1 := by rw [List.length_append, Hol.out]; rfl
            have Hln := hid hlen
            clear hlen
            go_wp2_with (first | refine x_q H ?_ | (refine is_blt (b := .append) rfl ?_; go_loud (refine wl_rw rfl (fun K hK => c_aprS H rfl rfl rfl 0 (H.rd (b := g) (off := 0) (vs := [.int .u32 ((cc : Int))]) List.prefix_rfl) rfl (by intro u hu; simp only [List.mem_singleton] at hu; subst hu; rfl) (by omega) (by unfold maxLen; omega) (fun p1 c1 w1 S' hf H1 => hK _ _ ?_))); (clear hK K); (clear H; have H := H1; clear H1; (try dsimp only at H); (first | replace hf := hf.kp | clear hf)); (simp only [nrm, ↓reduceIte, Nat.reduceAdd])) | (revert H; refine x_g ?_; intro g w1 hg hf H; replace hf := hf.kp))
            rw [limbs_snoc] at H
            go_roundw
            case rel => exact ⟨i + 1, pre ++ [c], r', o ++ [cc], _, _, by omega, by go_num, rfl, Hi2, Hb2, Hd2, HVm, hid (Hlo.out.app (Lim.cons (by omega) Lim.nil)), by rw [Hln.out]; omega, hpl2, by rw [Hln.out]; (refine Hp.arr H ?_; repeat (first | exact Pm.nil _ | (apply Pm.cons; · (repeat first | exact Rm.here _ | apply Rm.there))))⟩
            case measure => (simp [intOf]; try omega)
       ·have hz := HZ.out (.inr (by rw [Hb.out, hr', List.all_append, List.all_cons]; simp [hd]))
        have HZ2 := hid hz
        have hd1 : (c.toNat : Int) < 48 ∨ 57 < (c.toNat : Int) := by unfold dig at hd; simp at hd; omega
        clear hz
        rcases hd1 with hd1 | hd1
        all_goals
         go_wp2_with (first | refine x_q H ?_ | refine x_e (ev_strIdx rfl rfl rfl (by omega) (by assumption)) ?_ | refine x_e (ev_strLen rfl rfl) ?_ | (revert H; refine xSB ?_; intro w1 H hk))
         refine c_postCT H rfl rfl rfl rfl ?_
         rw [HZ2.out]
         exact ⟨_, rfl, H.fr, (bv_zero _).mono (Nat.zero_le _)⟩
      ·have hre : rest = [] := List.eq_nil_of_length_eq_zero (by have := Hi.out; omega)
       have Hpe : Hid (pre = b) := hid (by rw [Hb.out, hre, List.append_nil])
       have HV2 := hid (HV.out HbN.out (by rw [← Hpe.out]; exact Hpd.out))
       obtain ⟨p6, c6, e6, e7, hL⟩ := LR.of_row (H.rowo 0) Hlm.out
       injection e6 with e61 e62 e63
       subst e61 e63
       have HL := hid hL
       clear hL e7 e62
       go_wp2_with (first | refine x_q H ?_ | refine x_e (ev_strLen rfl rfl) ?_)
       (refine x_c H (make1_bv true ml rfl (by omega) (lr HL) 1024 (by omega)) ?_; clear H; rintro e w1 ⟨v6, rfl, hF, hB⟩ H; replace hF := hF.kp; rw [Hvm.out, Hpe.out] at hB; obtain ⟨b6, p6, m6, c6, rfl⟩ := hB.form; have HB6 := hid hB; clear hB)
       go_wp2_with (revert H; refine xSB ?_; intro w1 H hk)
       refine c_postCT H rfl rfl rfl rfl ?_
       rw [HV2.out, HS.out]
       exact ⟨_, rfl, H.fr, bv HB6⟩
   ·by_cases h2 : x.toNat = 43
    ·have HS : Hid (sgn s = false) := hid (by unfold sgn; rw [hhd, (hu 43 (by decide)).1 h2]; rfl)
     have HB : Hid (s.drop 1 = b) := hid (by rw [← hb]; unfold body; rw [if_pos (.inr (by rw [hhd, (hu 43 (by decide)).1 h2]; rfl)), List.drop_one])
     have hxa : (x.toNat : Int) ≤ 43 := by omega
     have hxb : (43 : Int) ≤ (x.toNat : Int) := by omega
     clear hx hhd hu h1 h2 hb
     have hbl : b.length + 1 = s.length := by rw [← HB.out, List.length_drop]; omega
     by_cases hb0 : b.length ≤ 0
     ·have HZ2 := hid (HZ.out (.inl (List.eq_nil_of_length_eq_zero (by omega))))
      go_enter Tryz.func110, Tryz.ntmps110
      go_wp2_with (first | refine x_q H ?_ | refine x_e (ev_strIdx rfl rfl rfl (by omega) (by assumption)) ?_ | refine x_e (ev_strLen rfl rfl) ?_ | (revert H; refine xSB ?_; intro w1 H hk) | (revert H; refine x_g ?_; intro g w1 hg hf H; replace hf := hf.kp))
      refine c_postCT H rfl rfl rfl rfl ?_
      rw [HZ2.out]
      exact ⟨_, rfl, H.fr, (bv_zero _).mono (Nat.zero_le _)⟩
     ·have hb1 : 1 ≤ b.length := by omega
      have HbN : Hid (b ≠ []) := hid (fun e => by rw [e] at hb1; simp at hb1)
      clear hb0
      go_enter Tryz.func110, Tryz.ntmps110
      go_wp2_with (first | refine x_q H ?_ | refine x_e (ev_strIdx rfl rfl rfl (by omega) (by assumption)) ?_ | refine x_e (ev_strLen rfl rfl) ?_ | (revert H; refine x_g ?_; intro g w1 hg hf H; replace hf := hf.kp))
      go_loopw [4, 6, 7, 8] (fun s4 s6 s7 s8 wr => ∃ (i : Nat) (pre rest : List UInt8) (ml : List Nat) (pv : Value) (S : List Nat), i ≤ s.length ∧ s4 = .int .i64 (i : Int) ∧ s6 = pv ∧ Hid (i = 1 + pre.length) ∧ Hid (b = pre ++ rest) ∧ Hid (pre.all dig = true) ∧ Hid (val ml = num pre) ∧ Hid (Lim ml) ∧ ml.length ≤ pre.length ∧ pre.length ≤ 1024 ∧ Hp [] w wr [.obj 0 S (RowAt 99 1 pv ml.length (limbs ml) S), .blk g [.bool false, .slice none 0 0] 50]) (fun v _ _ _ _ => s.length - (intOf v).toNat)
      case atStart => exact ⟨1, [], b, [], _, _, by omega, rfl, rfl, hid rfl, hid rfl, hid rfl, hid rfl, hid Lim.nil, Nat.le_refl _, Nat.zero_le _, by (refine Hp.arr H ?_; repeat (first | exact Pm.nil _ | (apply Pm.cons; · (repeat first | exact Rm.here _ | apply Rm.there))))⟩
      case round =>
       clear H
       obtain ⟨i, pre, rest, ml, pv, S, hi, rfl, hpv, Hi, Hb, Hpd, Hvm, Hlm, hml, hpl, H⟩ := hrel
       obtain ⟨p5, c5, he, _, hc5, _⟩ := (H.rowo 0).form
       unfold maxLen at hc5
       subst he
       subst hpv
       have hle : pre.length + rest.length = b.length := by rw [Hb.out, List.length_append]
       by_cases hin : i < s.length
       ·obtain ⟨c, r', hr'⟩ : ∃ c r', rest = c :: r' := by
         cases rest with
         | nil => have := Hi.out; simp at hle; omega
         | cons c r' => exact ⟨c, r', rfl⟩
        have hcx : s[(i : Int).toNat]? = some c := by
         rw [Int.toNat_natCast, Hi.out, ← List.getElem?_drop, HB.out, Hb.out, hr']
         simp
        by_cases hd : dig c = true
        ·have hd1 := dig_le hd
         have HR := hid hr'
         clear hr'
         go_wp2_with (first | refine x_q H ?_ | refine x_e (ev_strIdx rfl rfl rfl (by omega) (by assumption)) ?_ | refine x_e (ev_strLen rfl rfl) ?_)
         obtain ⟨d, hdd⟩ : ∃ d, c.toNat - 48 = d := ⟨_, rfl⟩
         have hd9 : d ≤ 9 := by omega
         rw [show ((c.toNat : Int) - 48) = (d : Int) by omega]
         have HN2 : Hid (num (pre ++ [c]) = 10 * num pre + d) := hid (by rw [num_app, num_one, hdd, List.length_cons, List.length_nil, Nat.zero_add, Nat.pow_one, Nat.mul_comm])
         have Hb2 : Hid (b = (pre ++ [c]) ++ r') := hid (by rw [Hb.out, HR.out]; simp)
         have Hd2 : Hid ((pre ++ [c]).all dig = true) := hid (by rw [List.all_append, Hpd.out]; simp [hd])
         have Hi2 : Hid (i + 1 = 1 + (pre ++ [c]).length) := hid (by have := Hi.out; rw [List.length_append, List.length_cons, List.length_nil]; omega)
         have hpl2 : (pre ++ [c]).length ≤ 1024 := by have h := congrArg List.length Hb2.out; rw [List.length_append] at h; omega
         have hpl3 : (pre ++ [c]).length = pre.length + 1 := by rw [List.length_append]; rfl
         clear hd hd1 hdd Hi Hpd
         by_cases hml0 : ml.length ≤ 0
         ·have hmn : ml = [] := List.eq_nil_of_length_eq_zero (by omega)
          have HVo : Hid (val ml + 4294967296 ^ ml.length * d = 10 * val ml + d) := hid (by rw [hmn]; simp [val])
          have Hol : Hid (ml.length = ml.length) := hid rfl
          clear hmn
          go_loopw [7, 8] (fun s7 s8 wr2 => s7 = .int .u64 (d : Int) ∧ s8 = .int .i64 0 ∧ Hp [] w wr2 [.obj 0 S (RowAt 99 1 (.slice p5 ml.length c5) ml.length (limbs ml) S), .blk g [.bool false, .slice none 0 0] 50]) (fun _ _ _ => 0)
          case atStart => exact ⟨rfl, rfl, H⟩
          case round =>
           clear H
           obtain ⟨rfl, rfl, H⟩ := hrel
           by_cases hcz : d ≤ 0
           ·have HVm : Hid (val ml = num (pre ++ [c])) := hid (by
             have h := HVo.out
             have h2 := HN2.out
             have h3 := Hvm.out
             have e : 4294967296 ^ (ml).length * d = 0 := by rw [show d = 0 by omega, Nat.mul_zero]
             rw [e] at h
             omega)
            go_wp2_with (refine x_q H ?_)
            go_roundw
            case rel => exact ⟨i + 1, pre ++ [c], r', ml, _, _, by omega, by go_num, rfl, Hi2, Hb2, Hd2, HVm, Hlm, by have := Hol.out; omega, hpl2, by first | exact H | (rw [Hol.out]; exact H)⟩
            case measure => (simp [intOf]; try omega)
           ·have HVm : Hid (val (ml ++ [d]) = num (pre ++ [c])) := hid (by rw [val_snoc, HVo.out, HN2.out, Hvm.out])
            have hlen : (ml ++ [d]).length = ml.length + 1 := by rw [List.length_append, Hol.out]; rfl
            have Hln := hid hlen
            clear hlen
            go_wp2_with (first | refine x_q H ?_ | (refine is_blt (b := .append) rfl ?_; go_loud (refine wl_rw rfl (fun K hK => c_aprS H rfl rfl rfl 0 (H.rd (b := g) (off := 0) (vs := [.int .u32 ((d : Int))]) List.prefix_rfl) rfl (by intro u hu; simp only [List.mem_singleton] at hu; subst hu; rfl) (by omega) (by unfold maxLen; omega) (fun p1 c1 w1 S' hf H1 => hK _ _ ?_))); (clear hK K); (clear H; have H := H1; clear H1; (try dsimp only at H); (first | replace hf := hf.kp | clear hf)); (simp only [nrm, ↓reduceIte, Nat.reduceAdd])) | (revert H; refine x_g ?_; intro g w1 hg hf H; replace hf := hf.kp))
            rw [limbs_snoc] at H
            go_roundw
            case rel => exact ⟨i + 1, pre ++ [c], r', ml ++ [d], _, _, by omega, by go_num, rfl, Hi2, Hb2, Hd2, HVm, hid (Hlm.out.app (Lim.cons (by omega) Lim.nil)), by rw [Hln.out]; omega, hpl2, by rw [Hln.out]; (refine Hp.arr H ?_; repeat (first | exact Pm.nil _ | (apply Pm.cons; · (repeat first | exact Rm.here _ | apply Rm.there))))⟩
            case measure => (simp [intOf]; try omega)
         ·obtain ⟨gb, cap, pad, hS, hv, hn1, hcap, hpq, H1⟩ := H.rowBlk 0 (show ml.length ≠ 0 by omega)
          injection hv with e1 e2 e3
          subst e1 e3
          clear H hS e2
          have H := H1
          clear H1
          go_loopw [7, 8] (fun s7 s8 wr2 => ∃ (j cc : Nat) (o : List Nat), j ≤ ml.length ∧ s7 = .int .u64 (cc : Int) ∧ s8 = .int .i64 (j : Int) ∧ cc ≤ 10 ∧ Hid (o.length = ml.length) ∧ Hid (Lim o) ∧ Hid (o.drop j = ml.drop j) ∧ Hid (val (o.take j) + 4294967296 ^ j * cc = 10 * val (ml.take j) + d) ∧ Hp [] w wr2 [.blk gb (limbs o ++ pad) 99, .blk g [.bool false, .slice none 0 0] 50]) (fun _ v _ => ml.length - (intOf v).toNat)
          case atStart => exact ⟨0, d, ml, Nat.zero_le _, rfl, rfl, by omega, hid rfl, Hlm, hid rfl, hid (by simp [val]), H⟩
          case round =>
           clear H
           obtain ⟨j, cc, o, hj, rfl, rfl, hcc, Hol, Hlo, Hod, Hva, H⟩ := hrel
           by_cases hjn : j < ml.length
           ·obtain ⟨x', hx'⟩ : ∃ x', ml[j]? = some x' := ⟨_, List.getElem?_eq_getElem hjn⟩
            have hxo : o[j]? = some x' := by
             have h := congrArg (fun l => l[0]?) Hod.out
             simp only [List.getElem?_drop, Nat.add_zero] at h
             rw [h]; exact hx'
            have hjo : j < o.length := by rw [Hol.out]; exact hjn
            have hxp := limbs_pad (pad := pad) hxo
            have hxB := Hlm.out.at hx'
            have Hx := hid hx'
            have hpq2 : o.length + pad.length ≤ 4611686018427387904 + o.length + pad.length := by omega
            have hin3 : j < (limbs o ++ pad).length := by rw [List.length_append, limbs_len]; omega
            clear hx' hxo hpq2
            go_wp2_with (first | refine x_q H ?_ | refine x_e (ev_high rfl rfl) ?_ | (revert H; refine x_s ?_; intro w1 hf H; clear hf))
            have e1 : ((cc : Int) + 10 * (x' : Int)) % 4294967296 = (((cc + 10 * x') % 4294967296 : Nat) : Int) := by omega
            have e2 : ((cc : Int) + 10 * (x' : Int)) / 4294967296 = (((cc + 10 * x') / 4294967296 : Nat) : Int) := by omega
            rw [e1, limbs_pad_set hjo] at H
            rw [e2]
            clear e1 e2
            go_roundw
            case rel => exact ⟨j + 1, (cc + 10 * x') / 4294967296, o.set j ((cc + 10 * x') % 4294967296), by omega, rfl, by go_num, by omega, hid (by rw [List.length_set]; exact Hol.out), hid (Hlo.out.set j (Nat.mod_lt _ (by decide))), hid (by
             have h := congrArg (List.drop 1) Hod.out
             rw [List.drop_drop, List.drop_drop] at h
             rw [List.drop_set_of_lt (by omega)]
             exact h), hid (by rw [take_set_succ _ _ _ hjo, val_snoc, List.length_take, Nat.min_eq_left (by omega), val_take_succ Hx.out, Nat.pow_succ]; exact ten_round Hva.out), H⟩
            case measure => (simp [intOf]; try omega)
           ·have hjn2 : j = ml.length := by omega
            have HVo : Hid (val o + 4294967296 ^ o.length * cc = 10 * val ml + d) := hid (by
             have h := Hva.out
             rw [hjn2, List.take_of_length_le (by rw [Hol.out]; exact Nat.le_refl _), List.take_of_length_le (Nat.le_refl _)] at h
             rw [Hol.out]; exact h)
            have H1 := H.blkRowN 0 (n := ml.length) (cap := c5) (by rw [limbs_len, Hol.out, Nat.mul_one]) hn1 hcap (by have := hpq; rw [List.length_append, limbs_len] at this ⊢; rw [Hol.out]; exact this)
            have hjn3 : ml.length ≤ j := by omega
            clear H hjn hjn2
            have H := H1
            clear H1
            by_cases hcz : cc ≤ 0
            ·have HVm : Hid (val o = num (pre ++ [c])) := hid (by
              have h := HVo.out
              have h2 := HN2.out
              have h3 := Hvm.out
              have e : 4294967296 ^ (o).length * cc = 0 := by rw [show cc = 0 by omega, Nat.mul_zero]
              rw [e] at h
              omega)
             go_wp2_with (refine x_q H ?_)
             go_roundw
             case rel => exact ⟨i + 1, pre ++ [c], r', o, _, _, by omega, by go_num, rfl, Hi2, Hb2, Hd2, HVm, Hlo, by have := Hol.out; omega, hpl2, by first | exact H | (rw [Hol.out]; exact H)⟩
             case measure => (simp [intOf]; try omega)
            ·have HVm : Hid (val (o ++ [cc]) = num (pre ++ [c])) := hid (by rw [val_snoc, HVo.out, HN2.out, Hvm.out])
             have hlen : (o ++ [cc]).length = ml.length + 1 := by rw [List.length_append, Hol.out]; rfl
             have Hln := hid hlen
             clear hlen
             go_wp2_with (first | refine x_q H ?_ | (refine is_blt (b := .append) rfl ?_; go_loud (refine wl_rw rfl (fun K hK => c_aprS H rfl rfl rfl 0 (H.rd (b := g) (off := 0) (vs := [.int .u32 ((cc : Int))]) List.prefix_rfl) rfl (by intro u hu; simp only [List.mem_singleton] at hu; subst hu; rfl) (by omega) (by unfold maxLen; omega) (fun p1 c1 w1 S' hf H1 => hK _ _ ?_))); (clear hK K); (clear H; have H := H1; clear H1; (try dsimp only at H); (first | replace hf := hf.kp | clear hf)); (simp only [nrm, ↓reduceIte, Nat.reduceAdd])) | (revert H; refine x_g ?_; intro g w1 hg hf H; replace hf := hf.kp))
             rw [limbs_snoc] at H
             go_roundw
             case rel => exact ⟨i + 1, pre ++ [c], r', o ++ [cc], _, _, by omega, by go_num, rfl, Hi2, Hb2, Hd2, HVm, hid (Hlo.out.app (Lim.cons (by omega) Lim.nil)), by rw [Hln.out]; omega, hpl2, by rw [Hln.out]; (refine Hp.arr H ?_; repeat (first | exact Pm.nil _ | (apply Pm.cons; · (repeat first | exact Rm.here _ | apply Rm.there))))⟩
             case measure => (simp [intOf]; try omega)
        ·have hz := HZ.out (.inr (by rw [Hb.out, hr', List.all_append, List.all_cons]; simp [hd]))
         have HZ2 := hid hz
         have hd1 : (c.toNat : Int) < 48 ∨ 57 < (c.toNat : Int) := by unfold dig at hd; simp at hd; omega
         clear hz
         rcases hd1 with hd1 | hd1
         all_goals
          go_wp2_with (first | refine x_q H ?_ | refine x_e (ev_strIdx rfl rfl rfl (by omega) (by assumption)) ?_ | refine x_e (ev_strLen rfl rfl) ?_ | (revert H; refine xSB ?_; intro w1 H hk))
          refine c_postCT H rfl rfl rfl rfl ?_
          rw [HZ2.out]
          exact ⟨_, rfl, H.fr, (bv_zero _).mono (Nat.zero_le _)⟩
       ·have hre : rest = [] := List.eq_nil_of_length_eq_zero (by have := Hi.out; omega)
        have Hpe : Hid (pre = b) := hid (by rw [Hb.out, hre, List.append_nil])
        have HV2 := hid (HV.out HbN.out (by rw [← Hpe.out]; exact Hpd.out))
        obtain ⟨p6, c6, e6, e7, hL⟩ := LR.of_row (H.rowo 0) Hlm.out
        injection e6 with e61 e62 e63
        subst e61 e63
        have HL := hid hL
        clear hL e7 e62
        go_wp2_with (first | refine x_q H ?_ | refine x_e (ev_strLen rfl rfl) ?_)
        (refine x_c H (make1_bv false ml rfl (by omega) (lr HL) 1024 (by omega)) ?_; clear H; rintro e w1 ⟨v6, rfl, hF, hB⟩ H; replace hF := hF.kp; rw [Hvm.out, Hpe.out] at hB; obtain ⟨b6, p6, m6, c6, rfl⟩ := hB.form; have HB6 := hid hB; clear hB)
        go_wp2_with (revert H; refine xSB ?_; intro w1 H hk)
        refine c_postCT H rfl rfl rfl rfl ?_
        rw [HV2.out, HS.out]
        exact ⟨_, rfl, H.fr, bv HB6⟩
    ·have hn1 : x ≠ 45 := fun e => h1 ((hu 45 (by decide)).2 e)
     have hn2 : x ≠ 43 := fun e => h2 ((hu 43 (by decide)).2 e)
     have HS : Hid (sgn s = false) := hid (by unfold sgn; rw [hhd]; simpa using hn1)
     have HB : Hid (s.drop 0 = b) := hid (by rw [← hb]; unfold body; rw [if_neg (by rw [hhd]; rintro (e | e); exact hn1 (Option.some.inj e); exact hn2 (Option.some.inj e)), List.drop_zero])
     have hxa : ¬ (x.toNat : Int) = 45 := by omega
     have hxb : ¬ (x.toNat : Int) = 43 := by omega
     clear hx hhd hu h1 h2 hb hn1 hn2
     have hbl : b.length + 0 = s.length := by rw [← HB.out, List.length_drop]; omega
     by_cases hb0 : b.length ≤ 0
     ·(exfalso; omega)
     ·have hb1 : 1 ≤ b.length := by omega
      have HbN : Hid (b ≠ []) := hid (fun e => by rw [e] at hb1; simp at hb1)
      clear hb0
      go_enter Tryz.func110, Tryz.ntmps110
      go_wp2_with (first | refine x_q H ?_ | refine x_e (ev_strIdx rfl rfl rfl (by omega) (by assumption)) ?_ | refine x_e (ev_strLen rfl rfl) ?_ | (revert H; refine x_g ?_; intro g w1 hg hf H; replace hf := hf.kp))
      go_loopw [4, 6, 7, 8] (fun s4 s6 s7 s8 wr => ∃ (i : Nat) (pre rest : List UInt8) (ml : List Nat) (pv : Value) (S : List Nat), i ≤ s.length ∧ s4 = .int .i64 (i : Int) ∧ s6 = pv ∧ Hid (i = 0 + pre.length) ∧ Hid (b = pre ++ rest) ∧ Hid (pre.all dig = true) ∧ Hid (val ml = num pre) ∧ Hid (Lim ml) ∧ ml.length ≤ pre.length ∧ pre.length ≤ 1024 ∧ Hp [] w wr [.obj 0 S (RowAt 99 1 pv ml.length (limbs ml) S), .blk g [.bool false, .slice none 0 0] 50]) (fun v _ _ _ _ => s.length - (intOf v).toNat)
      case atStart => exact ⟨0, [], b, [], _, _, by omega, rfl, rfl, hid rfl, hid rfl, hid rfl, hid rfl, hid Lim.nil, Nat.le_refl _, Nat.zero_le _, by (refine Hp.arr H ?_; repeat (first | exact Pm.nil _ | (apply Pm.cons; · (repeat first | exact Rm.here _ | apply Rm.there))))⟩
      case round =>
       clear H
       obtain ⟨i, pre, rest, ml, pv, S, hi, rfl, hpv, Hi, Hb, Hpd, Hvm, Hlm, hml, hpl, H⟩ := hrel
       obtain ⟨p5, c5, he, _, hc5, _⟩ := (H.rowo 0).form
       unfold maxLen at hc5
       subst he
       subst hpv
       have hle : pre.length + rest.length = b.length := by rw [Hb.out, List.length_append]
       by_cases hin : i < s.length
       ·obtain ⟨c, r', hr'⟩ : ∃ c r', rest = c :: r' := by
         cases rest with
         | nil => have := Hi.out; simp at hle; omega
         | cons c r' => exact ⟨c, r', rfl⟩
        have hcx : s[(i : Int).toNat]? = some c := by
         rw [Int.toNat_natCast, Hi.out, ← List.getElem?_drop, HB.out, Hb.out, hr']
         simp
        by_cases hd : dig c = true
        ·have hd1 := dig_le hd
         have HR := hid hr'
         clear hr'
         go_wp2_with (first | refine x_q H ?_ | refine x_e (ev_strIdx rfl rfl rfl (by omega) (by assumption)) ?_ | refine x_e (ev_strLen rfl rfl) ?_)
         obtain ⟨d, hdd⟩ : ∃ d, c.toNat - 48 = d := ⟨_, rfl⟩
         have hd9 : d ≤ 9 := by omega
         rw [show ((c.toNat : Int) - 48) = (d : Int) by omega]
         have HN2 : Hid (num (pre ++ [c]) = 10 * num pre + d) := hid (by rw [num_app, num_one, hdd, List.length_cons, List.length_nil, Nat.zero_add, Nat.pow_one, Nat.mul_comm])
         have Hb2 : Hid (b = (pre ++ [c]) ++ r') := hid (by rw [Hb.out, HR.out]; simp)
         have Hd2 : Hid ((pre ++ [c]).all dig = true) := hid (by rw [List.all_append, Hpd.out]; simp [hd])
         have Hi2 : Hid (i + 1 = 0 + (pre ++ [c]).length) := hid (by have := Hi.out; rw [List.length_append, List.length_cons, List.length_nil]; omega)
         have hpl2 : (pre ++ [c]).length ≤ 1024 := by have h := congrArg List.length Hb2.out; rw [List.length_append] at h; omega
         have hpl3 : (pre ++ [c]).length = pre.length + 1 := by rw [List.length_append]; rfl
         clear hd hd1 hdd Hi Hpd
         by_cases hml0 : ml.length ≤ 0
         ·have hmn : ml = [] := List.eq_nil_of_length_eq_zero (by omega)
          have HVo : Hid (val ml + 4294967296 ^ ml.length * d = 10 * val ml + d) := hid (by rw [hmn]; simp [val])
          have Hol : Hid (ml.length = ml.length) := hid rfl
          clear hmn
          go_loopw [7, 8] (fun s7 s8 wr2 => s7 = .int .u64 (d : Int) ∧ s8 = .int .i64 0 ∧ Hp [] w wr2 [.obj 0 S (RowAt 99 1 (.slice p5 ml.length c5) ml.length (limbs ml) S), .blk g [.bool false, .slice none 0 0] 50]) (fun _ _ _ => 0)
          case atStart => exact ⟨rfl, rfl, H⟩
          case round =>
           clear H
           obtain ⟨rfl, rfl, H⟩ := hrel
           by_cases hcz : d ≤ 0
           ·have HVm : Hid (val ml = num (pre ++ [c])) := hid (by
             have h := HVo.out
             have h2 := HN2.out
             have h3 := Hvm.out
             have e : 4294967296 ^ (ml).length * d = 0 := by rw [show d = 0 by omega, Nat.mul_zero]
             rw [e] at h
             omega)
            go_wp2_with (refine x_q H ?_)
            go_roundw
            case rel => exact ⟨i + 1, pre ++ [c], r', ml, _, _, by omega, by go_num, rfl, Hi2, Hb2, Hd2, HVm, Hlm, by have := Hol.out; omega, hpl2, by first | exact H | (rw [Hol.out]; exact H)⟩
            case measure => (simp [intOf]; try omega)
           ·have HVm : Hid (val (ml ++ [d]) = num (pre ++ [c])) := hid (by rw [val_snoc, HVo.out, HN2.out, Hvm.out])
            have hlen : (ml ++ [d]).length = ml.length + 1 := by rw [List.length_append, Hol.out]; rfl
            have Hln := hid hlen
            clear hlen
            go_wp2_with (first | refine x_q H ?_ | (refine is_blt (b := .append) rfl ?_; go_loud (refine wl_rw rfl (fun K hK => c_aprS H rfl rfl rfl 0 (H.rd (b := g) (off := 0) (vs := [.int .u32 ((d : Int))]) List.prefix_rfl) rfl (by intro u hu; simp only [List.mem_singleton] at hu; subst hu; rfl) (by omega) (by unfold maxLen; omega) (fun p1 c1 w1 S' hf H1 => hK _ _ ?_))); (clear hK K); (clear H; have H := H1; clear H1; (try dsimp only at H); (first | replace hf := hf.kp | clear hf)); (simp only [nrm, ↓reduceIte, Nat.reduceAdd])) | (revert H; refine x_g ?_; intro g w1 hg hf H; replace hf := hf.kp))
            rw [limbs_snoc] at H
            go_roundw
            case rel => exact ⟨i + 1, pre ++ [c], r', ml ++ [d], _, _, by omega, by go_num, rfl, Hi2, Hb2, Hd2, HVm, hid (Hlm.out.app (Lim.cons (by omega) Lim.nil)), by rw [Hln.out]; omega, hpl2, by rw [Hln.out]; (refine Hp.arr H ?_; repeat (first | exact Pm.nil _ | (apply Pm.cons; · (repeat first | exact Rm.here _ | apply Rm.there))))⟩
            case measure => (simp [intOf]; try omega)
         ·obtain ⟨gb, cap, pad, hS, hv, hn1, hcap, hpq, H1⟩ := H.rowBlk 0 (show ml.length ≠ 0 by omega)
          injection hv with e1 e2 e3
          subst e1 e3
          clear H hS e2
          have H := H1
          clear H1
          go_loopw [7, 8] (fun s7 s8 wr2 => ∃ (j cc : Nat) (o : List Nat), j ≤ ml.length ∧ s7 = .int .u64 (cc : Int) ∧ s8 = .int .i64 (j : Int) ∧ cc ≤ 10 ∧ Hid (o.length = ml.length) ∧ Hid (Lim o) ∧ Hid (o.drop j = ml.drop j) ∧ Hid (val (o.take j) + 4294967296 ^ j * cc = 10 * val (ml.take j) + d) ∧ Hp [] w wr2 [.blk gb (limbs o ++ pad) 99, .blk g [.bool false, .slice none 0 0] 50]) (fun _ v _ => ml.length - (intOf v).toNat)
          case atStart => exact ⟨0, d, ml, Nat.zero_le _, rfl, rfl, by omega, hid rfl, Hlm, hid rfl, hid (by simp [val]), H⟩
          case round =>
           clear H
           obtain ⟨j, cc, o, hj, rfl, rfl, hcc, Hol, Hlo, Hod, Hva, H⟩ := hrel
           by_cases hjn : j < ml.length
           ·obtain ⟨x', hx'⟩ : ∃ x', ml[j]? = some x' := ⟨_, List.getElem?_eq_getElem hjn⟩
            have hxo : o[j]? = some x' := by
             have h := congrArg (fun l => l[0]?) Hod.out
             simp only [List.getElem?_drop, Nat.add_zero] at h
             rw [h]; exact hx'
            have hjo : j < o.length := by rw [Hol.out]; exact hjn
            have hxp := limbs_pad (pad := pad) hxo
            have hxB := Hlm.out.at hx'
            have Hx := hid hx'
            have hpq2 : o.length + pad.length ≤ 4611686018427387904 + o.length + pad.length := by omega
            have hin3 : j < (limbs o ++ pad).length := by rw [List.length_append, limbs_len]; omega
            clear hx' hxo hpq2
            go_wp2_with (first | refine x_q H ?_ | refine x_e (ev_high rfl rfl) ?_ | (revert H; refine x_s ?_; intro w1 hf H; clear hf))
            have e1 : ((cc : Int) + 10 * (x' : Int)) % 4294967296 = (((cc + 10 * x') % 4294967296 : Nat) : Int) := by omega
            have e2 : ((cc : Int) + 10 * (x' : Int)) / 4294967296 = (((cc + 10 * x') / 4294967296 : Nat) : Int) := by omega
            rw [e1, limbs_pad_set hjo] at H
            rw [e2]
            clear e1 e2
            go_roundw
            case rel => exact ⟨j + 1, (cc + 10 * x') / 4294967296, o.set j ((cc + 10 * x') % 4294967296), by omega, rfl, by go_num, by omega, hid (by rw [List.length_set]; exact Hol.out), hid (Hlo.out.set j (Nat.mod_lt _ (by decide))), hid (by
             have h := congrArg (List.drop 1) Hod.out
             rw [List.drop_drop, List.drop_drop] at h
             rw [List.drop_set_of_lt (by omega)]
             exact h), hid (by rw [take_set_succ _ _ _ hjo, val_snoc, List.length_take, Nat.min_eq_left (by omega), val_take_succ Hx.out, Nat.pow_succ]; exact ten_round Hva.out), H⟩
            case measure => (simp [intOf]; try omega)
           ·have hjn2 : j = ml.length := by omega
            have HVo : Hid (val o + 4294967296 ^ o.length * cc = 10 * val ml + d) := hid (by
             have h := Hva.out
             rw [hjn2, List.take_of_length_le (by rw [Hol.out]; exact Nat.le_refl _), List.take_of_length_le (Nat.le_refl _)] at h
             rw [Hol.out]; exact h)
            have H1 := H.blkRowN 0 (n := ml.length) (cap := c5) (by rw [limbs_len, Hol.out, Nat.mul_one]) hn1 hcap (by have := hpq; rw [List.length_append, limbs_len] at this ⊢; rw [Hol.out]; exact this)
            have hjn3 : ml.length ≤ j := by omega
            clear H hjn hjn2
            have H := H1
            clear H1
            by_cases hcz : cc ≤ 0
            ·have HVm : Hid (val o = num (pre ++ [c])) := hid (by
              have h := HVo.out
              have h2 := HN2.out
              have h3 := Hvm.out
              have e : 4294967296 ^ (o).length * cc = 0 := by rw [show cc = 0 by omega, Nat.mul_zero]
              rw [e] at h
              omega)
             go_wp2_with (refine x_q H ?_)
             go_roundw
             case rel => exact ⟨i + 1, pre ++ [c], r', o, _, _, by omega, by go_num, rfl, Hi2, Hb2, Hd2, HVm, Hlo, by have := Hol.out; omega, hpl2, by first | exact H | (rw [Hol.out]; exact H)⟩
             case measure => (simp [intOf]; try omega)
            ·have HVm : Hid (val (o ++ [cc]) = num (pre ++ [c])) := hid (by rw [val_snoc, HVo.out, HN2.out, Hvm.out])
             have hlen : (o ++ [cc]).length = ml.length + 1 := by rw [List.length_append, Hol.out]; rfl
             have Hln := hid hlen
             clear hlen
             go_wp2_with (first | refine x_q H ?_ | (refine is_blt (b := .append) rfl ?_; go_loud (refine wl_rw rfl (fun K hK => c_aprS H rfl rfl rfl 0 (H.rd (b := g) (off := 0) (vs := [.int .u32 ((cc : Int))]) List.prefix_rfl) rfl (by intro u hu; simp only [List.mem_singleton] at hu; subst hu; rfl) (by omega) (by unfold maxLen; omega) (fun p1 c1 w1 S' hf H1 => hK _ _ ?_))); (clear hK K); (clear H; have H := H1; clear H1; (try dsimp only at H); (first | replace hf := hf.kp | clear hf)); (simp only [nrm, ↓reduceIte, Nat.reduceAdd])) | (revert H; refine x_g ?_; intro g w1 hg hf H; replace hf := hf.kp))
             rw [limbs_snoc] at H
             go_roundw
             case rel => exact ⟨i + 1, pre ++ [c], r', o ++ [cc], _, _, by omega, by go_num, rfl, Hi2, Hb2, Hd2, HVm, hid (Hlo.out.app (Lim.cons (by omega) Lim.nil)), by rw [Hln.out]; omega, hpl2, by rw [Hln.out]; (refine Hp.arr H ?_; repeat (first | exact Pm.nil _ | (apply Pm.cons; · (repeat first | exact Rm.here _ | apply Rm.there))))⟩
             case measure => (simp [intOf]; try omega)
        ·have hz := HZ.out (.inr (by rw [Hb.out, hr', List.all_append, List.all_cons]; simp [hd]))
         have HZ2 := hid hz
         have hd1 : (c.toNat : Int) < 48 ∨ 57 < (c.toNat : Int) := by unfold dig at hd; simp at hd; omega
         clear hz
         rcases hd1 with hd1 | hd1
         all_goals
          go_wp2_with (first | refine x_q H ?_ | refine x_e (ev_strIdx rfl rfl rfl (by omega) (by assumption)) ?_ | refine x_e (ev_strLen rfl rfl) ?_ | (revert H; refine xSB ?_; intro w1 H hk))
          refine c_postCT H rfl rfl rfl rfl ?_
          rw [HZ2.out]
          exact ⟨_, rfl, H.fr, (bv_zero _).mono (Nat.zero_le _)⟩
       ·have hre : rest = [] := List.eq_nil_of_length_eq_zero (by have := Hi.out; omega)
        have Hpe : Hid (pre = b) := hid (by rw [Hb.out, hre, List.append_nil])
        have HV2 := hid (HV.out HbN.out (by rw [← Hpe.out]; exact Hpd.out))
        obtain ⟨p6, c6, e6, e7, hL⟩ := LR.of_row (H.rowo 0) Hlm.out
        injection e6 with e61 e62 e63
        subst e61 e63
        have HL := hid hL
        clear hL e7 e62
        go_wp2_with (first | refine x_q H ?_ | refine x_e (ev_strLen rfl rfl) ?_)
        (refine x_c H (make1_bv false ml rfl (by omega) (lr HL) 1024 (by omega)) ?_; clear H; rintro e w1 ⟨v6, rfl, hF, hB⟩ H; replace hF := hF.kp; rw [Hvm.out, Hpe.out] at hB; obtain ⟨b6, p6, m6, c6, rfl⟩ := hB.form; have HB6 := hid hB; clear hB)
        go_wp2_with (revert H; refine xSB ?_; intro w1 H hk)
        refine c_postCT H rfl rfl rfl rfl ?_
        rw [HV2.out, HS.out]
        exact ⟨_, rfl, H.fr, bv HB6⟩
structure Td (N n X : Nat) (ds : List UInt8) : Prop where
 len : ds.length ≤ 32 * n
 x : X = N / 10 ^ ds.length
 d : dec N = (if X = 0 ∧ ds ≠ [] then [] else dec X) ++ ds.reverse
theorem Td.start (N n : Nat) : Td N n N [] := ⟨by simp, by simp, by simp⟩
theorem Td.next {N n X : Nat} {ds : List UInt8} (h : Td N n X ds) (hN : N < 4294967296 ^ n) (hX : X ≠ 0) : Td N n (X / 10) (ds ++ [UInt8.ofNat (48 + X % 10)]) := by
 refine ⟨?_, ?_, ?_⟩
 ·have h1 : 10 ^ ds.length ≤ N := by
   apply Classical.byContradiction
   intro hn
   have := h.x
   rw [Nat.div_eq_of_lt (by omega)] at this
   exact hX this
  have h2 : 2 ^ ds.length ≤ 10 ^ ds.length := Nat.pow_le_pow_left (by decide) _
  rw [powB] at hN
  have h3 : 2 ^ ds.length < 2 ^ (32 * n) := by omega
  have h4 := (Nat.pow_lt_pow_iff_right (show 1 < 2 by decide)).1 h3
  rw [List.length_append, List.length_cons, List.length_nil]
  omega
 ·rw [List.length_append, List.length_cons, List.length_nil, Nat.pow_succ, ← Nat.div_div_eq_div_mul, ← h.x]
 ·rw [h.d, if_neg (fun e => hX e.1), List.reverse_append, List.reverse_singleton, List.singleton_append]
  by_cases hq : X < 10
  ·rw [if_pos ⟨by omega, by simp⟩, List.nil_append, dec_small hq, Nat.mod_eq_of_lt hq]
   rfl
  ·rw [if_neg (fun e => by have := e.1; omega), dec_ten (by omega), List.append_assoc]
   rfl
theorem Td.fin {N n : Nat} {ds : List UInt8} (h : Td N n 0 ds) (hN : N ≠ 0) : ds ≠ [] ∧ ds.reverse = dec N := by
 have hne : ds ≠ [] := fun e => by
  have h1 := h.x
  rw [e] at h1
  simp at h1
  exact hN h1.symm
 refine ⟨hne, ?_⟩
 rw [h.d, if_pos ⟨rfl, hne⟩, List.nil_append]
theorem bytesV_ap (s t : List UInt8) : bytesV s ++ bytesV t = bytesV (s ++ t) := by simp [bytesV]
theorem bytesV_b (x : UInt8) : [Value.int .u8 (x.toNat : Int)] = bytesV [x] := by simp [bytesV]
theorem bytesV_d {r : Nat} (h : r < 10) : [Value.int .u8 (48 + (r : Int))] = bytesV [UInt8.ofNat (48 + r)] := by
 rw [← bytesV_b, UInt8.toNat_ofNat_of_lt' (show 48 + r < 256 by omega)]
 simp
theorem bytes_pad {s : List UInt8} {pad : List Value} {j : Nat} {x : UInt8} (h : s[j]? = some x) : (bytesV s ++ pad)[j]? = some (.int .u8 (x.toNat : Int)) := by
 apply pre_at
 simp [bytesV, h]
theorem LR.cellAt {w : World} {b off c : Nat} {l : List Nat} (h : LR w (some ⟨b, off, none⟩) c l) {j x : Nat} (hx : l[j]? = some x) : w.cell? ⟨b, off + j, none⟩ = some (.int .u32 (x : Int)) := by
 obtain ⟨b', off', e, _, hc⟩ := h.rd.rng (limbs_ne (i := j) (List.getElem?_eq_some_iff.1 hx).1)
 cases e
 exact hc j _ (limbs_at hx)
theorem rformat_any {w : World} {p : Option Addr} {n c : Nat} (neg : Bool) (l : List Nat) (hl : l.length = n) (hn : n ≤ 10000) (h : LR w p c l) :
  Calls Tryz.prog 68 #[.agg #[.bool neg, .slice p n c]] w fun e w' => e = .returned (strV (fmt (zv neg l))) ∧ Fr [] w w' := by
 subst hl
 have Hh := hid h
 have hlen := digs_len_le h.lim
 have H := Hp.start [] w
 clear h
 obtain ⟨A, hA⟩ : ∃ A, (zv neg l).natAbs = A := ⟨_, rfl⟩
 obtain ⟨nb, hnb⟩ : ∃ b, decide (zv neg l < 0) = b := ⟨_, rfl⟩
 have hdl : (digs A).length ≤ 10000 := by rw [← hA, zv_abs]; omega
 have HA := hid hA
 have Hnb := hid hnb
 have HAl := hid (digs_lt A)
 clear hA hnb hlen
 go_enter Tryz.func68, Tryz.ntmps68
 go_wp2_with (first | refine x_q H ?_ | (revert H; refine x_g ?_; intro g w1 hg hf H; (first | replace HLm := hid (HLm.out.frS hf HNq.out) | replace hf := hf.kp | clear hf)))
 (refine x_c H (rnorm_any neg l rfl (by omega) (Hh.out.fr H.fr)) ?_; clear H; rintro e w1 ⟨p3, c3, rfl, hF, hL⟩ H; replace hF := hF.kp)
 rw [HA.out] at hL
 rw [HA.out, Hnb.out]
 have HL3 := hid hL
 clear hL
 by_cases h0 : (digs A).length ≤ 0
 ·have HZ : Hid (fmt (zv neg l) = [48]) := hid (by
   have h1 : A = 0 := Classical.byContradiction fun e => by have := digs_len_pos e; omega
   have h2 := HA.out
   rw [h1] at h2
   rw [Int.natAbs_eq_zero.1 h2, fmt_zero])
  go_wp2_with (first | refine x_q H ?_ | (revert H; refine xSB ?_; intro w1 H hk))
  go_ret
  exact ⟨by rw [HZ.out]; rfl, H.fr⟩
 ·have hA0 : Hid (A ≠ 0) := hid (fun e => by rw [e, digs_zero] at h0; exact h0 (Nat.le_refl _))
  have h0' : 0 < (digs A).length := by omega
  clear h0
  go_wp2_with (first | refine x_q H ?_ | (revert H; refine xSB ?_; intro w1 H hk))
  obtain ⟨gb, hgb⟩ : ∃ x, x = g := ⟨_, rfl⟩
  subst hgb
  have H1 := H.newRow 0 (e := 5) (sz := 1)
  clear H
  have H := H1
  clear H1
  go_loopg [3, 4, 5, 6, 7] A (fun kk s3 s4 s5 s6 s7 wr => ∃ (p1 : Option Addr) (c1 : Nat) (ds : List UInt8) (v : Value) (S : List Nat) (m : Nat), s3 = v ∧ s4 = .slice p1 (digs kk).length c1 ∧ Hid (LR wr p1 c1 (digs kk)) ∧ Hid (Td A (digs A).length kk ds) ∧ (digs kk).length ≤ 10000 ∧ Hid (ds.length = m) ∧ m ≤ 320000 ∧ Hp [] w wr [.obj 0 S (RowAt 5 1 v m (bytesV ds) S), .blk gb [.bool nb, .slice p3 (digs A).length c3] 50])
  case atStart => exact ⟨p3, c3, [], _, _, 0, rfl, rfl, hid (lr HL3), hid (Td.start _ _), hdl, hid rfl, by omega, H⟩
  case round =>
   clear H
   obtain ⟨p1, c1, ds, v, S, m, hv, rfl, HL1, HD, hkl, Hm, hm3, H⟩ := hrel
   obtain ⟨pg, cg, he, hmc, hcm, _⟩ := (H.rowo 0).form
   subst he
   subst hv
   unfold maxLen at hcm
   by_cases h0 : gk = 0
   ·have hk0 : (digs gk).length ≤ 0 := by rw [h0, digs_zero]; exact Nat.le_refl _
    have HT := hid (Td.fin (by have h := HD.out; rw [h0] at h; exact h) hA0.out)
    have hm1 : m ≠ 0 := fun e => HT.out.1 (List.eq_nil_of_length_eq_zero (by rw [Hm.out, e]))
    obtain ⟨gd, cap, pad, hS, hv, hn1, hcap, hpq, H1⟩ := H.rowBlk 0 hm1
    injection hv with e1 e2 e3
    subst e1 e3
    clear H hS e2 h0
    have H := H1.newRow 1 (e := 5) (sz := 1)
    clear H1
    cases nb
    ·go_wp2_with (refine x_q H ?_)
     go_loopw [8, 9] (fun s8 s9 wr2 => ∃ (k : Nat) (out : List UInt8) (pv : Value) (S1 : List Nat), k ≤ m ∧ s8 = pv ∧ s9 = .int .i64 ((k : Int) - 1) ∧ Hid (out = [] ++ (ds.drop k).reverse) ∧ out.length + k ≤ 320001 ∧ Hp [] w wr2 [.obj 1 S1 (RowAt 5 1 pv out.length (bytesV out) S1), .blk gd (bytesV ds ++ pad) 5, .blk gb [.bool false, .slice p3 (digs A).length c3] 50]) (fun _ v _ => (intOf v + 1).toNat)
     case atStart => exact ⟨m, [], _, _, Nat.le_refl _, rfl, rfl, hid (by rw [← Hm.out, List.drop_length]; rfl), by (first | (simp only [List.length_cons, List.length_nil]; omega)), by (refine Hp.arr H ?_; repeat (first | exact Pm.nil _ | (apply Pm.cons; · (repeat first | exact Rm.here _ | apply Rm.there))))⟩
     case round =>
      clear H
      obtain ⟨k, out, pv, S1, hk, hpv, rfl, HO, hol, H⟩ := hrel
      obtain ⟨p5, c5, he, _, hc5, _⟩ := (H.rowo 1).form
      unfold maxLen at hc5
      subst he
      subst hpv
      by_cases hk0 : k = 0
      ·have HF : Hid (fmt (zv neg l) = out) := hid (by rw [HO.out, hk0, List.drop_zero, HT.out.2]; exact (by rw [fmt, if_neg (of_decide_eq_false Hnb.out), HA.out]; rfl))
       have hlt : (k : Int) - 1 < 0 := by omega
       clear hk0
       go_wp2_with (first | refine x_q H ?_ | refine x_e (c_bs rfl rfl (H.rowo 1).rd) ?_)
       go_ret
       exact ⟨by rw [HF.out]; rfl, H.fr⟩
      ·obtain ⟨j, rfl⟩ : ∃ j, k = j + 1 := ⟨k - 1, by omega⟩
       have e1 : (((j + 1 : Nat) : Int) - 1) = (j : Int) := by omega
       rw [e1]
       clear e1 hk0
       obtain ⟨x, hx⟩ : ∃ x, ds[j]? = some x := ⟨_, List.getElem?_eq_getElem (by have := Hm.out; omega)⟩
       have hxp := bytes_pad (pad := pad) hx
       have HX := hid hx
       have Hln : Hid ((out ++ [x]).length = out.length + 1) := hid (by rw [List.length_append]; rfl)
       clear hx
       go_wp2_with (first | refine x_q H ?_ | (refine is_blt (b := .append) rfl ?_; go_loud (refine wl_rw rfl (fun K hK => c_aprS H rfl rfl rfl 1 (H.rd (b := g) (off := 0) (vs := [.int .u8 ((x.toNat : Int))]) List.prefix_rfl) rfl (by intro u hu; simp only [List.mem_singleton] at hu; subst hu; rfl) (by omega) (by unfold maxLen; omega) (fun p1 c1 w1 S' hf H1 => hK _ _ ?_))); (clear hK K); (clear H; have H := H1; clear H1; (try dsimp only at H); (first | replace HLm := hid (HLm.out.frS hf HNq.out) | replace hf := hf.kp | clear hf)); (simp only [nrm, ↓reduceIte, Nat.reduceAdd])) | (revert H; refine x_g ?_; intro g w1 hg hf H; (first | replace HLm := hid (HLm.out.frS hf HNq.out) | replace hf := hf.kp | clear hf)))
       rw [bytesV_b, bytesV_ap] at H
       go_roundw
       case rel => exact ⟨j, out ++ [x], _, _, by omega, rfl, rfl, hid (by rw [HO.out, drop_cons_at HX.out, List.reverse_cons, List.append_assoc]), by rw [Hln.out]; omega, by rw [Hln.out]; (refine Hp.arr H ?_; repeat (first | exact Pm.nil _ | (apply Pm.cons; · (repeat first | exact Rm.here _ | apply Rm.there))))⟩
       case measure => (simp [intOf]; try omega)
    ·go_wp2_with (first | refine x_q H ?_ | (refine is_blt (b := .append) rfl ?_; go_loud (refine wl_rw rfl (fun K hK => c_aprS H rfl rfl rfl 1 (H.rd (b := g) (off := 0) (vs := [.int .u8 (45)]) List.prefix_rfl) rfl (by intro u hu; simp only [List.mem_singleton] at hu; subst hu; rfl) (by omega) (by unfold maxLen; omega) (fun p1 c1 w1 S' hf H1 => hK _ _ ?_))); (clear hK K); (clear H; have H := H1; clear H1; (try dsimp only at H); (first | replace HLm := hid (HLm.out.frS hf HNq.out) | replace hf := hf.kp | clear hf)); (simp only [nrm, ↓reduceIte, Nat.reduceAdd])) | (revert H; refine x_g ?_; intro g w1 hg hf H; (first | replace HLm := hid (HLm.out.frS hf HNq.out) | replace hf := hf.kp | clear hf)))
     go_loopw [8, 9] (fun s8 s9 wr2 => ∃ (k : Nat) (out : List UInt8) (pv : Value) (S1 : List Nat), k ≤ m ∧ s8 = pv ∧ s9 = .int .i64 ((k : Int) - 1) ∧ Hid (out = [45] ++ (ds.drop k).reverse) ∧ out.length + k ≤ 320001 ∧ Hp [] w wr2 [.obj 1 S1 (RowAt 5 1 pv out.length (bytesV out) S1), .blk gd (bytesV ds ++ pad) 5, .blk gb [.bool true, .slice p3 (digs A).length c3] 50]) (fun _ v _ => (intOf v + 1).toNat)
     case atStart => exact ⟨m, [45], _, _, Nat.le_refl _, rfl, rfl, hid (by rw [← Hm.out, List.drop_length]; rfl), by (first | (simp only [List.length_cons, List.length_nil]; omega)), by (refine Hp.arr H ?_; repeat (first | exact Pm.nil _ | (apply Pm.cons; · (repeat first | exact Rm.here _ | apply Rm.there))))⟩
     case round =>
      clear H
      obtain ⟨k, out, pv, S1, hk, hpv, rfl, HO, hol, H⟩ := hrel
      obtain ⟨p5, c5, he, _, hc5, _⟩ := (H.rowo 1).form
      unfold maxLen at hc5
      subst he
      subst hpv
      by_cases hk0 : k = 0
      ·have HF : Hid (fmt (zv neg l) = out) := hid (by rw [HO.out, hk0, List.drop_zero, HT.out.2]; exact (by rw [fmt, if_pos (of_decide_eq_true Hnb.out), HA.out]; rfl))
       have hlt : (k : Int) - 1 < 0 := by omega
       clear hk0
       go_wp2_with (first | refine x_q H ?_ | refine x_e (c_bs rfl rfl (H.rowo 1).rd) ?_)
       go_ret
       exact ⟨by rw [HF.out]; rfl, H.fr⟩
      ·obtain ⟨j, rfl⟩ : ∃ j, k = j + 1 := ⟨k - 1, by omega⟩
       have e1 : (((j + 1 : Nat) : Int) - 1) = (j : Int) := by omega
       rw [e1]
       clear e1 hk0
       obtain ⟨x, hx⟩ : ∃ x, ds[j]? = some x := ⟨_, List.getElem?_eq_getElem (by have := Hm.out; omega)⟩
       have hxp := bytes_pad (pad := pad) hx
       have HX := hid hx
       have Hln : Hid ((out ++ [x]).length = out.length + 1) := hid (by rw [List.length_append]; rfl)
       clear hx
       go_wp2_with (first | refine x_q H ?_ | (refine is_blt (b := .append) rfl ?_; go_loud (refine wl_rw rfl (fun K hK => c_aprS H rfl rfl rfl 1 (H.rd (b := g) (off := 0) (vs := [.int .u8 ((x.toNat : Int))]) List.prefix_rfl) rfl (by intro u hu; simp only [List.mem_singleton] at hu; subst hu; rfl) (by omega) (by unfold maxLen; omega) (fun p1 c1 w1 S' hf H1 => hK _ _ ?_))); (clear hK K); (clear H; have H := H1; clear H1; (try dsimp only at H); (first | replace HLm := hid (HLm.out.frS hf HNq.out) | replace hf := hf.kp | clear hf)); (simp only [nrm, ↓reduceIte, Nat.reduceAdd])) | (revert H; refine x_g ?_; intro g w1 hg hf H; (first | replace HLm := hid (HLm.out.frS hf HNq.out) | replace hf := hf.kp | clear hf)))
       rw [bytesV_b, bytesV_ap] at H
       go_roundw
       case rel => exact ⟨j, out ++ [x], _, _, by omega, rfl, rfl, hid (by rw [HO.out, drop_cons_at HX.out, List.reverse_cons, List.append_assoc]), by rw [Hln.out]; omega, by rw [Hln.out]; (refine Hp.arr H ?_; repeat (first | exact Pm.nil _ | (apply Pm.cons; · (repeat first | exact Rm.here _ | apply Rm.there))))⟩
       case measure => (simp [intOf]; try omega)
   ·have hkp : 0 < (digs gk).length := digs_len_pos h0
    obtain ⟨b0, off, rfl, hb0, hcell⟩ := HL1.out.rd.rng (limbs_ne (i := 0) hkp)
    clear hcell
    have HN := hid (HD.out.next HAl.out h0)
    have Hlt := hid (Nat.div_lt_self (Nat.pos_of_ne_zero h0) (show 1 < 10 by decide))
    have hml := HN.out.len
    rw [List.length_append, Hm.out, List.length_cons, List.length_nil] at hml
    have hql := digs_mono (Nat.div_le_self gk 10)
    clear h0
    go_wp2_with (first | refine x_q H ?_ | (revert H; refine x_g ?_; intro g w1 hg hf H; (first | replace HLm := hid (HLm.out.frS hf HNq.out) | replace hf := hf.kp | clear hf)))
    obtain ⟨gq, hgq⟩ : ∃ x, x = g := ⟨_, rfl⟩
    subst hgq
    have HNq : Hid (∀ (b : Nat) off', some (⟨b0, off, none⟩ : Addr) = some ⟨b, off', none⟩ → b ∉ [gq]) := hid (fun b off' e hb => by
     cases e
     simp only [List.mem_singleton] at hb
     have := hg.2
     omega)
    have HLm : Hid (LR w1 (some ⟨b0, off, none⟩) c1 (digs gk)) := hid (lr HL1)
    rw [show (((digs gk).length : Int)).toNat = (digs gk).length by omega, zeros_limbs] at H
    go_loopw [5, 7] (fun s5 s7 wr2 => ∃ (i r : Nat) (o : List Nat), i ≤ (digs gk).length ∧ s5 = .int .u64 r ∧ s7 = .int .i64 ((i : Int) - 1) ∧ r < 10 ∧ Hid (o.length = (digs gk).length) ∧ Hid (Lim o) ∧ Hid (val ((digs gk).drop i) = 10 * val (o.drop i) + r) ∧ Hid (LR wr2 (some ⟨b0, off, none⟩) c1 (digs gk)) ∧ Hp [] w wr2 [.blk gq (limbs o) 99, .obj 0 S (RowAt 5 1 (.slice pg m cg) m (bytesV ds) S), .blk gb [.bool nb, .slice p3 (digs A).length c3] 50]) (fun _ v _ => (intOf v + 1).toNat)
    case atStart => exact ⟨(digs gk).length, 0, List.replicate (digs gk).length 0, Nat.le_refl _, rfl, rfl, by omega, hid List.length_replicate, hid (Lim.zeros _), hid (by rw [List.drop_eq_nil_of_le (Nat.le_refl _), List.drop_eq_nil_of_le (by rw [List.length_replicate]; exact Nat.le_refl _)]; simp [val]), HLm, H⟩
    case round =>
     clear H HLm
     obtain ⟨i, r, o, hi, rfl, rfl, hr, Hol, Hlo, Hv, HLm, H⟩ := hrel
     by_cases h1 : i = 0
     ·have HV : Hid (gk = 10 * val o + r) := hid (by
       have := Hv.out
       rwa [h1, List.drop_zero, List.drop_zero, val_digs] at this)
      have h1' : (i : Int) - 1 < 0 := by omega
      have HQ : Hid (val o = gk / 10) := hid (by have := HV.out; omega)
      have HR : Hid (gk % 10 = r) := hid (by have := HV.out; omega)
      have Hr := hid hr
      clear h1 HLm
      go_wp2_with (first | refine x_q H ?_ | (refine is_blt (b := .append) rfl ?_; go_loud (refine wl_rw rfl (fun K hK => c_aprS H rfl rfl rfl 0 (H.rd (b := g) (off := 0) (vs := [.int .u8 (48 + (r : Int))]) List.prefix_rfl) rfl (by intro u hu; simp only [List.mem_singleton] at hu; subst hu; rfl) (by omega) (by unfold maxLen; omega) (fun p1 c1 w1 S' hf H1 => hK _ _ ?_))); (clear hK K); (clear H; have H := H1; clear H1; (try dsimp only at H); (first | replace HLm := hid (HLm.out.frS hf HNq.out) | replace hf := hf.kp | clear hf)); (simp only [nrm, ↓reduceIte, Nat.reduceAdd])) | (revert H; refine x_g ?_; intro g w1 hg hf H; (first | replace HLm := hid (HLm.out.frS hf HNq.out) | replace hf := hf.kp | clear hf)))
      rw [bytesV_d Hr.out, bytesV_ap] at H
      have hL := LR.of_blk (pad := []) (by rw [List.append_nil]; exact H.at gq) Hlo.out (by rw [Hol.out]; exact Nat.le_refl _) (by unfold maxLen; omega)
      (refine x_c H (rtrim_any o Hol.out (by omega) hL) ?_; clear H; rintro e w1 ⟨p5, c5, rfl, hF, hL5⟩ H; replace hF := hF.kp; have HL5 := hid hL5; clear hL5)
      rw [HQ.out] at HL5 ⊢
      go_wp2_with fail
      go_roundg (gk / 10)
      case measure => exact Hlt.out
      case rel => exact ⟨p5, c5, ds ++ [UInt8.ofNat (48 + r)], _, _, m + 1, rfl, rfl, HL5, hid (by have h := HN.out; rwa [HR.out] at h), by omega, hid (by rw [List.length_append, Hm.out]; rfl), by omega, by (refine Hp.arr H ?_; repeat (first | exact Pm.nil _ | (apply Pm.cons; · (repeat first | exact Rm.here _ | apply Rm.there))))⟩
     ·obtain ⟨j, rfl⟩ : ∃ j, i = j + 1 := ⟨i - 1, by omega⟩
      obtain ⟨x, hx⟩ : ∃ x, (digs gk)[j]? = some x := ⟨_, List.getElem?_eq_getElem (by omega)⟩
      have hC := HLm.out.cellAt hx
      have hxB := HLm.out.lim.at hx
      have Hx := hid hx
      have e1 : (((j + 1 : Nat) : Int) - 1) = (j : Int) := by omega
      rw [e1]
      clear e1 hx h1
      have hjo : j < o.length := by rw [Hol.out]; omega
      obtain ⟨ov, hov⟩ : ∃ ov, o[j]? = some ov := ⟨_, List.getElem?_eq_getElem hjo⟩
      have hovv := limbs_at hov
      have hlim := short_limb hr hxB
      have Hlim := hid hlim
      clear hov hlim
      go_wp2_with (first | refine x_q H ?_ | refine x_e (c_ldc rfl rfl hC) ?_ | refine x_e (ev_over rfl rfl) ?_ | refine x_e (ev_orJ rfl rfl rfl) ?_ | (revert H; refine x_s ?_; intro w1 hf H; (first | replace HLm := hid (HLm.out.frS hf HNq.out) | replace hf := hf.kp | clear hf)))
      have e1 : ((r : Int) * 4294967296 + (x : Int)) / 10 = (((r * 4294967296 + x) / 10 : Nat) : Int) := by omega
      have e3 : ((r : Int) * 4294967296 + (x : Int)) % 10 = (((r * 4294967296 + x) % 10 : Nat) : Int) := by omega
      rw [e1, limbs_set] at H
      rw [e3]
      clear e1 e3
      go_roundw
      case rel => exact ⟨j, (r * 4294967296 + x) % 10, o.set j ((r * 4294967296 + x) / 10), by omega, rfl, rfl, Nat.mod_lt _ (by decide), hid (by rw [List.length_set]; exact Hol.out), hid (Hlo.out.set _ Hlim.out), hid (by rw [drop_set _ _ _ hjo, drop_cons_at Hx.out]; simp only [val]; exact short_round Hv.out), HLm, by (refine Hp.arr H ?_; repeat (first | exact Pm.nil _ | (apply Pm.cons; · (repeat first | exact Rm.here _ | apply Rm.there))))⟩
      case measure => (simp [intOf]; try omega)
theorem rformat_ar {w : World} {u : Value} {x : Int} {n : Nat} (h : Av w u x n) (hn : n ≤ 10000) :
  Calls Tryz.prog 68 #[u] w fun e w' => e = .returned (strV (fmt x)) ∧ Fr [] w w' := by
 obtain ⟨na, la, p, c, rfl, h1, rfl, h3⟩ := h
 exact rformat_any na la rfl (by omega) h1
theorem rformatN_any {w : World} {u : Value} {N n : Nat} (h : Av w u (N : Int) n) (hn : n ≤ 10000) {l : List UInt8} (hl : Hid (dec N = l)) :
  Calls Tryz.prog 68 #[u] w fun e w' => e = .returned (strV l) ∧ Fr [] w w' := by
 have h1 := rformat_ar h hn
 rwa [show fmt (N : Int) = l by unfold fmt; rw [if_neg (by omega), Int.natAbs_natCast, hl.out]] at h1
end Go.Proofs.YthbeeeclgbpopaaGreatDoor
