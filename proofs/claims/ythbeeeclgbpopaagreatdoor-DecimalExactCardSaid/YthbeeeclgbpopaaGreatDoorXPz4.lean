/-
  The document's integers: Parse.
-/
import Derived.Test.YthbeeeclgbpopaaGreatDoorXPz3
import Derived.Test.YthbeeeclgbpopaaGreatDoorXPd0
import Derived.Test.YthbeeeclgbpopaaGreatDoorXIz6
namespace Go.Proofs.YthbeeeclgbpopaaGreatDoor
open Go.RowKit
set_option linter.unusedSimpArgs false
set_option linter.unusedVariables false
set_option maxHeartbeats 16000000
set_option maxRecDepth 100000

section
variable {T : List Nat} {w0 w : World} {l : List Ent}
theorem Hp.rowBlk (H : Hp T w0 w l) (k : Nat) {S : List Nat} {e : TypeId} {sz n : Nat} {v : Value} {xs : List Value} {f : Ent → List Ent} [i : Oi k S (RowAt e sz v n xs S) l f] (hn : n ≠ 0) : ∃ g cap pad, S = [g] ∧ v = .slice (some ⟨g, 0, none⟩) n cap ∧ n ≤ cap ∧ cap ≤ maxLen ∧ (xs ++ pad).length = cap * sz ∧ Hp T w0 w (f (.blk g (xs ++ pad) e)) := by
  obtain ⟨h0, ⟨rfl, h1, _⟩ | ⟨g, cap, pad, rfl, rfl, h2, h3, h4, h5⟩⟩ := H.ob k
  · exact absurd h1 hn
  · exact ⟨g, cap, pad, rfl, rfl, h2, h3, h4, H.recast (i.h _) rfl ⟨h5, H.home k g (by simp)⟩⟩
theorem Hp.blkRowN {g : Nat} {e : TypeId} {xs pad : List Value} (H : Hp T w0 w (.blk g (xs ++ pad) e :: l)) (k : Nat) {n cap : Nat} (hx : xs.length = n * 1) (hn : n ≤ cap) (hc : cap ≤ maxLen) (hl : (xs ++ pad).length = cap * 1) : Hp T w0 w (.obj k [g] (RowAt e 1 (.slice (some ⟨g, 0, none⟩) n cap) n xs [g]) :: l) :=
  H.recast (Rep.head l) rfl ⟨⟨hx, .inr ⟨g, cap, pad, rfl, rfl, hn, hc, hl, (H.ok _ (.head _)).1⟩⟩, RowAt.firm, by simpa using (H.ok _ (.head _)).2⟩
end
theorem ten_round {A M P cc x d : Nat} (h : A + P * cc = 10 * M + d) : A + P * ((cc + 10 * x) % 4294967296) + (P * 4294967296) * ((cc + 10 * x) / 4294967296) = 10 * (M + P * x) + d := by
  have e := Nat.mod_add_div (cc + 10 * x) 4294967296
  have e1 : P * ((cc + 10 * x) % 4294967296) + (P * 4294967296) * ((cc + 10 * x) / 4294967296) = P * cc + 10 * (P * x) := by
    rw [Nat.mul_assoc, ← Nat.mul_add, e, Nat.mul_add, Nat.mul_left_comm]
  rw [Nat.add_assoc, e1]
  omega
theorem limbs_pad {o : List Nat} {pad : List Value} {j x : Nat} (h : o[j]? = some x) : (limbs o ++ pad)[j]? = some (.int .u32 (x : Int)) := by
  rw [List.getElem?_append_left (by rw [limbs_len]; exact (List.getElem?_eq_some_iff.1 h).1)]
  exact limbs_at h
theorem limbs_pad_set {o : List Nat} {pad : List Value} {j x : Nat} (h : j < o.length) : (limbs o ++ pad).set j (.int .u32 (x : Int)) = limbs (o.set j x) ++ pad := by
  rw [List.set_append_left _ _ (by rw [limbs_len]; exact h), limbs_set]
theorem rparse_any (w : World) (s : List UInt8) (hs : s.length ≤ 1000000) :
    Calls Tryz.prog 110 #[strV s] w fun e w' => ∃ v1, e = .returned (.tuple #[v1, .int .i64 (pz s).2]) ∧ Fr [] w w' ∧ Bv w' v1 (pz s).1 1024 := by
  have H := (Hp.start [] w).newRow 0 (e := 99) (sz := 1)
  by_cases hl : 1024 < s.length
  · have HZ : Hid (pz s = (0, 2)) := hid (by unfold pz; rw [if_pos hl])
    go_enter Tryz.func110, Tryz.ntmps110
    go_wp2_with (first | refine x_q H ?_ | refine x_e (ev_strLen rfl rfl) ?_ | (revert H; refine x_s2 ?_; intro w1 hf H hk; clear hf; change Kp _ _ at hk) | (revert H; (first | (refine x_g ?_; intro g w1 hg hf H) | (refine x_s ?_; intro w1 hf H)); (first | replace hf := hf.kp | clear hf)))
    refine c_postCT H rfl rfl rfl rfl ?_
    rw [HZ.out]
    exact ⟨_, rfl, H.fr, (bv_zero _).mono (Nat.zero_le _)⟩
  · have hl2 : s.length ≤ 1024 := by omega
    clear hl
    by_cases hs0 : s.length ≤ 0
    · have HZ : Hid (pz s = (0, 7)) := hid (by rw [List.eq_nil_of_length_eq_zero (show s.length = 0 by omega)]; decide)
      go_enter Tryz.func110, Tryz.ntmps110
      go_wp2_with (first | refine x_q H ?_ | refine x_e (ev_strLen rfl rfl) ?_ | (revert H; refine x_s2 ?_; intro w1 hf H hk; clear hf; change Kp _ _ at hk) | (revert H; (first | (refine x_g ?_; intro g w1 hg hf H) | (refine x_s ?_; intro w1 hf H)); (first | replace hf := hf.kp | clear hf)))
      refine c_postCT H rfl rfl rfl rfl ?_
      rw [HZ.out]
      exact ⟨_, rfl, H.fr, (bv_zero _).mono (Nat.zero_le _)⟩
    · have hs1 : 1 ≤ s.length := by omega
      clear hs0
      obtain ⟨x, hx⟩ : ∃ x, s[0]? = some x := ⟨_, List.getElem?_eq_getElem (by omega)⟩
      have hx0 : s[(0 : Int).toNat]? = some x := hx
      have hhd : s.head? = some x := by rw [List.head?_eq_getElem?]; exact hx
      have hxn : x.toNat < 256 := x.toNat_lt
      obtain ⟨b, hb⟩ : ∃ b, body s = b := ⟨_, rfl⟩
      have HZ : Hid (b = [] ∨ b.all dig = false → pz s = (0, 7)) := hid (fun h => by unfold pz; rw [if_neg (by omega), hb, if_pos h])
      have HV : Hid (b ≠ [] → b.all dig = true → pz s = (sg (sgn s) (num b), 0)) := hid (fun e1 e2 => by unfold pz; rw [if_neg (by omega), hb, if_neg (by rintro (h | h); exact e1 h; rw [e2] at h; cases h)])
      have hu : ∀ k : Nat, k < 256 → (x.toNat = k ↔ x = UInt8.ofNat k) := fun k hk => by
        constructor
        · intro h; rw [← h, UInt8.ofNat_toNat]
        · intro h; rw [h, UInt8.toNat_ofNat']; exact Nat.mod_eq_of_lt hk
      by_cases h1 : x.toNat = 45
      · have HS : Hid (sgn s = true) := hid (by unfold sgn; rw [hhd, (hu 45 (by decide)).1 h1]; rfl)
        have HB : Hid (s.drop 1 = b) := hid (by rw [← hb]; unfold body; rw [if_pos (.inl (by rw [hhd, (hu 45 (by decide)).1 h1]; rfl)), List.drop_one])
        have hxa : (x.toNat : Int) ≤ 45 := by omega
        have hxb : (45 : Int) ≤ (x.toNat : Int) := by omega
        clear hx hhd hu h1 hb
        have hbl : b.length + 1 = s.length := by rw [← HB.out, List.length_drop]; omega
        by_cases hb0 : b.length ≤ 0
        · have HZ2 := hid (HZ.out (.inl (List.eq_nil_of_length_eq_zero (by omega))))
          go_enter Tryz.func110, Tryz.ntmps110
          go_wp2_with (first | refine x_q H ?_ | refine x_e (ev_strIdx rfl rfl rfl (by omega) (by assumption)) ?_ | refine x_e (ev_strLen rfl rfl) ?_ | (revert H; refine x_s2 ?_; intro w1 hf H hk; clear hf; change Kp _ _ at hk) | (revert H; (first | (refine x_g ?_; intro g w1 hg hf H) | (refine x_s ?_; intro w1 hf H)); (first | replace hf := hf.kp | clear hf)))
          refine c_postCT H rfl rfl rfl rfl ?_
          rw [HZ2.out]
          exact ⟨_, rfl, H.fr, (bv_zero _).mono (Nat.zero_le _)⟩
        · have hb1 : 1 ≤ b.length := by omega
          have HbN : Hid (b ≠ []) := hid (fun e => by rw [e] at hb1; simp at hb1)
          clear hb0
          go_enter Tryz.func110, Tryz.ntmps110
          go_wp2_with (first | refine x_q H ?_ | refine x_e (ev_strIdx rfl rfl rfl (by omega) (by assumption)) ?_ | refine x_e (ev_strLen rfl rfl) ?_ | (revert H; (first | (refine x_g ?_; intro g w1 hg hf H) | (refine x_s ?_; intro w1 hf H)); (first | replace hf := hf.kp | clear hf)))
          go_loopw [4, 6, 7, 8] (fun s4 s6 s7 s8 wr => ∃ (i : Nat) (pre rest : List UInt8) (ml : List Nat) (pv : Value) (S : List Nat), i ≤ s.length ∧ s4 = .int .i64 (i : Int) ∧ s6 = pv ∧ Hid (i = 1 + pre.length) ∧ Hid (b = pre ++ rest) ∧ Hid (pre.all dig = true) ∧ Hid (val ml = num pre) ∧ Hid (Lim ml) ∧ ml.length ≤ pre.length ∧ pre.length ≤ 1024 ∧ Hp [] w wr [.obj 0 S (RowAt 99 1 pv ml.length (limbs ml) S), .blk g [.bool false, .slice none 0 0] 50]) (fun v _ _ _ _ => s.length - (intOf v).toNat)
          case atStart => exact ⟨1, [], b, [], _, _, by omega, rfl, rfl, hid rfl, hid rfl, hid rfl, hid rfl, hid Lim.nil, Nat.le_refl _, Nat.zero_le _, by (refine Hp.arr H ?_; repeat (first | exact Pm.nil _ | (apply Pm.cons; · (repeat first | exact Rm.here _ | apply Rm.there))))⟩
          case round =>
            clear H
            obtain ⟨i, pre, rest, ml, pv, S, hi, rfl, hpv, Hi, Hb, Hpd, Hvm, Hlm, hml, hpl, H⟩ := hrel
            obtain ⟨p5, c5, he, _, hc5, _⟩ := (H.rowo 0).form
            unfold maxLen at hc5
            subst he
            subst hpv
            have hle : pre.length + rest.length = b.length := by rw [Hb.out, List.length_append]
            by_cases hin : i < s.length
            · obtain ⟨c, r', hr'⟩ : ∃ c r', rest = c :: r' := by
                cases rest with
                | nil => have := Hi.out; simp at hle; omega
                | cons c r' => exact ⟨c, r', rfl⟩
              have hcx : s[(i : Int).toNat]? = some c := by
                rw [Int.toNat_natCast, Hi.out, ← List.getElem?_drop, HB.out, Hb.out, hr']
                simp
              by_cases hd : dig c = true
              · have hd1 := dig_le hd
                have HR := hid hr'
                clear hr'
                go_wp2_with (first | refine x_q H ?_ | refine x_e (ev_strIdx rfl rfl rfl (by omega) (by assumption)) ?_ | refine x_e (ev_strLen rfl rfl) ?_)
                obtain ⟨d, hdd⟩ : ∃ d, c.toNat - 48 = d := ⟨_, rfl⟩
                have hd9 : d ≤ 9 := by omega
                rw [show ((c.toNat : Int) - 48) = (d : Int) by omega]
                have HN2 : Hid (num (pre ++ [c]) = 10 * num pre + d) := hid (by rw [num_app, num_one, hdd, List.length_cons, List.length_nil, Nat.zero_add, Nat.pow_one, Nat.mul_comm])
                have Hb2 : Hid (b = (pre ++ [c]) ++ r') := hid (by rw [Hb.out, HR.out]; simp)
                have Hd2 : Hid ((pre ++ [c]).all dig = true) := hid (by rw [List.all_append, Hpd.out]; simp [hd])
                have Hi2 : Hid (i + 1 = 1 + (pre ++ [c]).length) := hid (by have := Hi.out; rw [List.length_append, List.length_cons, List.length_nil]; omega)
                have hpl2 : (pre ++ [c]).length ≤ 1024 := by have h := congrArg List.length Hb2.out; rw [List.length_append] at h; omega
                have hpl3 : (pre ++ [c]).length = pre.length + 1 := by rw [List.length_append]; rfl
                clear hd hd1 hdd Hi Hpd
                by_cases hml0 : ml.length ≤ 0
                · have hmn : ml = [] := List.eq_nil_of_length_eq_zero (by omega)
                  have HVo : Hid (val ml + 4294967296 ^ ml.length * d = 10 * val ml + d) := hid (by rw [hmn]; simp [val])
                  have Hol : Hid (ml.length = ml.length) := hid rfl
                  clear hmn
                  go_loopw [7, 8] (fun s7 s8 wr2 => s7 = .int .u64 (d : Int) ∧ s8 = .int .i64 0 ∧ Hp [] w wr2 [.obj 0 S (RowAt 99 1 (.slice p5 ml.length c5) ml.length (limbs ml) S), .blk g [.bool false, .slice none 0 0] 50]) (fun _ _ _ => 0)
                  case atStart => exact ⟨rfl, rfl, H⟩
                  case round =>
                    clear H
                    obtain ⟨rfl, rfl, H⟩ := hrel
                    by_cases hcz : d ≤ 0
                    · have HVm : Hid (val ml = num (pre ++ [c])) := hid (by
                        have h := HVo.out
                        have h2 := HN2.out
                        have h3 := Hvm.out
                        have e : 4294967296 ^ (ml).length * d = 0 := by rw [show d = 0 by omega, Nat.mul_zero]
                        rw [e] at h
                        omega)
                      go_wp2_with (refine x_q H ?_)
                      go_roundw
                      case rel => exact ⟨i + 1, pre ++ [c], r', ml, _, _, by omega, by go_num, rfl, Hi2, Hb2, Hd2, HVm, Hlm, by have := Hol.out; omega, hpl2, by first | exact H | (rw [Hol.out]; exact H)⟩
                      case measure => (simp [intOf]; try omega)
                    · have HVm : Hid (val (ml ++ [d]) = num (pre ++ [c])) := hid (by rw [val_snoc, HVo.out, HN2.out, Hvm.out])
                      have hlen : (ml ++ [d]).length = ml.length + 1 := by rw [List.length_append, Hol.out]; rfl
                      have Hln := hid hlen
                      clear hlen
                      go_wp2_with (first | refine x_q H ?_ | (refine is_blt (b := .append) rfl ?_; go_loud (refine wl_rw rfl (fun K hK => c_aprS H rfl rfl rfl 0 (H.rd (b := g) (off := 0) (vs := [.int .u32 ((d : Int))]) List.prefix_rfl) rfl (by intro u hu; simp only [List.mem_singleton] at hu; subst hu; rfl) (by omega) (by unfold maxLen; omega) (fun p1 c1 w1 S' hf H1 => hK _ _ ?_))); (clear hK K); (clear H; have H := H1; clear H1; (try dsimp only at H); (first | replace hf := hf.kp | clear hf)); (simp only [nrm, ↓reduceIte, Nat.reduceAdd])) | (revert H; (first | (refine x_g ?_; intro g w1 hg hf H) | (refine x_s ?_; intro w1 hf H)); (first | replace hf := hf.kp | clear hf)))
                      rw [limbs_snoc] at H
                      go_roundw
                      case rel => exact ⟨i + 1, pre ++ [c], r', ml ++ [d], _, _, by omega, by go_num, rfl, Hi2, Hb2, Hd2, HVm, hid (Hlm.out.app (Lim.cons (by omega) Lim.nil)), by rw [Hln.out]; omega, hpl2, by rw [Hln.out]; (refine Hp.arr H ?_; repeat (first | exact Pm.nil _ | (apply Pm.cons; · (repeat first | exact Rm.here _ | apply Rm.there))))⟩
                      case measure => (simp [intOf]; try omega)
                · obtain ⟨gb, cap, pad, hS, hv, hn1, hcap, hpq, H1⟩ := H.rowBlk 0 (show ml.length ≠ 0 by omega)
                  injection hv with e1 e2 e3
                  subst e1 e3
                  clear H hS e2
                  have H := H1
                  clear H1
                  go_loopw [7, 8] (fun s7 s8 wr2 => ∃ (j cc : Nat) (o : List Nat), j ≤ ml.length ∧ s7 = .int .u64 (cc : Int) ∧ s8 = .int .i64 (j : Int) ∧ cc ≤ 10 ∧ Hid (o.length = ml.length) ∧ Hid (Lim o) ∧ Hid (o.drop j = ml.drop j) ∧ Hid (val (o.take j) + 4294967296 ^ j * cc = 10 * val (ml.take j) + d) ∧ Hp [] w wr2 [.blk gb (limbs o ++ pad) 99, .blk g [.bool false, .slice none 0 0] 50]) (fun _ v _ => ml.length - (intOf v).toNat)
                  case atStart => exact ⟨0, d, ml, Nat.zero_le _, rfl, rfl, by omega, hid rfl, Hlm, hid rfl, hid (by simp [val]), H⟩
                  case round =>
                    clear H
                    obtain ⟨j, cc, o, hj, rfl, rfl, hcc, Hol, Hlo, Hod, Hva, H⟩ := hrel
                    by_cases hjn : j < ml.length
                    · obtain ⟨x', hx'⟩ : ∃ x', ml[j]? = some x' := ⟨_, List.getElem?_eq_getElem hjn⟩
                      have hxo : o[j]? = some x' := by
                        have h := congrArg (fun l => l[0]?) Hod.out
                        simp only [List.getElem?_drop, Nat.add_zero] at h
                        rw [h]; exact hx'
                      have hjo : j < o.length := by rw [Hol.out]; exact hjn
                      have hxp := limbs_pad (pad := pad) hxo
                      have hxB := Hlm.out.at hx'
                      have Hx := hid hx'
                      have hpq2 : o.length + pad.length ≤ 4611686018427387904 + o.length + pad.length := by omega
                      have hin3 : j < (limbs o ++ pad).length := by rw [List.length_append, limbs_len]; omega
                      clear hx' hxo hpq2
                      go_wp2_with (first | refine x_q H ?_ | refine x_e (ev_high rfl rfl) ?_ | (revert H; (first | (refine x_g ?_; intro g w1 hg hf H) | (refine x_s ?_; intro w1 hf H)); (first | replace hf := hf.kp | clear hf)))
                      have e1 : ((cc : Int) + 10 * (x' : Int)) % 4294967296 = (((cc + 10 * x') % 4294967296 : Nat) : Int) := by omega
                      have e2 : ((cc : Int) + 10 * (x' : Int)) / 4294967296 = (((cc + 10 * x') / 4294967296 : Nat) : Int) := by omega
                      rw [e1, limbs_pad_set hjo] at H
                      rw [e2]
                      clear e1 e2
                      go_roundw
                      case rel => exact ⟨j + 1, (cc + 10 * x') / 4294967296, o.set j ((cc + 10 * x') % 4294967296), by omega, rfl, by go_num, by omega, hid (by rw [List.length_set]; exact Hol.out), hid (Hlo.out.set j (Nat.mod_lt _ (by decide))), hid (by
                        have h := congrArg (List.drop 1) Hod.out
                        rw [List.drop_drop, List.drop_drop] at h
                        rw [List.drop_set_of_lt (by omega)]
                        exact h), hid (by rw [take_set_succ _ _ _ hjo, val_snoc, List.length_take, Nat.min_eq_left (by omega), val_take_succ Hx.out, Nat.pow_succ]; exact ten_round Hva.out), H⟩
                      case measure => (simp [intOf]; try omega)
                    · have hjn2 : j = ml.length := by omega
                      have HVo : Hid (val o + 4294967296 ^ o.length * cc = 10 * val ml + d) := hid (by
                        have h := Hva.out
                        rw [hjn2, List.take_of_length_le (by rw [Hol.out]; exact Nat.le_refl _), List.take_of_length_le (Nat.le_refl _)] at h
                        rw [Hol.out]; exact h)
                      have H1 := H.blkRowN 0 (n := ml.length) (cap := c5) (by rw [limbs_len, Hol.out, Nat.mul_one]) hn1 hcap (by have := hpq; rw [List.length_append, limbs_len] at this ⊢; rw [Hol.out]; exact this)
                      have hjn3 : ml.length ≤ j := by omega
                      clear H hjn hjn2
                      have H := H1
                      clear H1
                      by_cases hcz : cc ≤ 0
                      · have HVm : Hid (val o = num (pre ++ [c])) := hid (by
                          have h := HVo.out
                          have h2 := HN2.out
                          have h3 := Hvm.out
                          have e : 4294967296 ^ (o).length * cc = 0 := by rw [show cc = 0 by omega, Nat.mul_zero]
                          rw [e] at h
                          omega)
                        go_wp2_with (refine x_q H ?_)
                        go_roundw
                        case rel => exact ⟨i + 1, pre ++ [c], r', o, _, _, by omega, by go_num, rfl, Hi2, Hb2, Hd2, HVm, Hlo, by have := Hol.out; omega, hpl2, by first | exact H | (rw [Hol.out]; exact H)⟩
                        case measure => (simp [intOf]; try omega)
                      · have HVm : Hid (val (o ++ [cc]) = num (pre ++ [c])) := hid (by rw [val_snoc, HVo.out, HN2.out, Hvm.out])
                        have hlen : (o ++ [cc]).length = ml.length + 1 := by rw [List.length_append, Hol.out]; rfl
                        have Hln := hid hlen
                        clear hlen
                        go_wp2_with (first | refine x_q H ?_ | (refine is_blt (b := .append) rfl ?_; go_loud (refine wl_rw rfl (fun K hK => c_aprS H rfl rfl rfl 0 (H.rd (b := g) (off := 0) (vs := [.int .u32 ((cc : Int))]) List.prefix_rfl) rfl (by intro u hu; simp only [List.mem_singleton] at hu; subst hu; rfl) (by omega) (by unfold maxLen; omega) (fun p1 c1 w1 S' hf H1 => hK _ _ ?_))); (clear hK K); (clear H; have H := H1; clear H1; (try dsimp only at H); (first | replace hf := hf.kp | clear hf)); (simp only [nrm, ↓reduceIte, Nat.reduceAdd])) | (revert H; (first | (refine x_g ?_; intro g w1 hg hf H) | (refine x_s ?_; intro w1 hf H)); (first | replace hf := hf.kp | clear hf)))
                        rw [limbs_snoc] at H
                        go_roundw
                        case rel => exact ⟨i + 1, pre ++ [c], r', o ++ [cc], _, _, by omega, by go_num, rfl, Hi2, Hb2, Hd2, HVm, hid (Hlo.out.app (Lim.cons (by omega) Lim.nil)), by rw [Hln.out]; omega, hpl2, by rw [Hln.out]; (refine Hp.arr H ?_; repeat (first | exact Pm.nil _ | (apply Pm.cons; · (repeat first | exact Rm.here _ | apply Rm.there))))⟩
                        case measure => (simp [intOf]; try omega)
              · have hz := HZ.out (.inr (by rw [Hb.out, hr', List.all_append, List.all_cons]; simp [hd]))
                have HZ2 := hid hz
                have hd1 : (c.toNat : Int) < 48 ∨ 57 < (c.toNat : Int) := by unfold dig at hd; simp at hd; omega
                clear hz
                rcases hd1 with hd1 | hd1
                all_goals
                  go_wp2_with (first | refine x_q H ?_ | refine x_e (ev_strIdx rfl rfl rfl (by omega) (by assumption)) ?_ | refine x_e (ev_strLen rfl rfl) ?_ | (revert H; refine x_s2 ?_; intro w1 hf H hk; clear hf; change Kp _ _ at hk))
                  refine c_postCT H rfl rfl rfl rfl ?_
                  rw [HZ2.out]
                  exact ⟨_, rfl, H.fr, (bv_zero _).mono (Nat.zero_le _)⟩
            · have hre : rest = [] := List.eq_nil_of_length_eq_zero (by have := Hi.out; omega)
              have Hpe : Hid (pre = b) := hid (by rw [Hb.out, hre, List.append_nil])
              have HV2 := hid (HV.out HbN.out (by rw [← Hpe.out]; exact Hpd.out))
              obtain ⟨p6, c6, e6, e7, hL⟩ := LR.of_row (H.rowo 0) Hlm.out
              injection e6 with e61 e62 e63
              subst e61 e63
              have HL := hid hL
              clear hL e7 e62
              go_wp2_with (first | refine x_q H ?_ | refine x_e (ev_strLen rfl rfl) ?_)
              (refine x_c H (make1_bv true ml rfl (by omega) (lr HL) 1024 (by omega)) ?_; clear H; rintro e w1 ⟨v6, rfl, hF, hB⟩ H; replace hF := hF.kp; rw [Hvm.out, Hpe.out] at hB; obtain ⟨b6, p6, m6, c6, rfl⟩ := hB.form; have HB6 := hid hB; clear hB)
              go_wp2_with (revert H; refine x_s2 ?_; intro w1 hf H hk; clear hf; change Kp _ _ at hk)
              refine c_postCT H rfl rfl rfl rfl ?_
              rw [HV2.out, HS.out]
              exact ⟨_, rfl, H.fr, bv HB6⟩
      · by_cases h2 : x.toNat = 43
        · have HS : Hid (sgn s = false) := hid (by unfold sgn; rw [hhd, (hu 43 (by decide)).1 h2]; rfl)
          have HB : Hid (s.drop 1 = b) := hid (by rw [← hb]; unfold body; rw [if_pos (.inr (by rw [hhd, (hu 43 (by decide)).1 h2]; rfl)), List.drop_one])
          have hxa : (x.toNat : Int) ≤ 43 := by omega
          have hxb : (43 : Int) ≤ (x.toNat : Int) := by omega
          clear hx hhd hu h1 h2 hb
          have hbl : b.length + 1 = s.length := by rw [← HB.out, List.length_drop]; omega
          by_cases hb0 : b.length ≤ 0
          · have HZ2 := hid (HZ.out (.inl (List.eq_nil_of_length_eq_zero (by omega))))
            go_enter Tryz.func110, Tryz.ntmps110
            go_wp2_with (first | refine x_q H ?_ | refine x_e (ev_strIdx rfl rfl rfl (by omega) (by assumption)) ?_ | refine x_e (ev_strLen rfl rfl) ?_ | (revert H; refine x_s2 ?_; intro w1 hf H hk; clear hf; change Kp _ _ at hk) | (revert H; (first | (refine x_g ?_; intro g w1 hg hf H) | (refine x_s ?_; intro w1 hf H)); (first | replace hf := hf.kp | clear hf)))
            refine c_postCT H rfl rfl rfl rfl ?_
            rw [HZ2.out]
            exact ⟨_, rfl, H.fr, (bv_zero _).mono (Nat.zero_le _)⟩
          · have hb1 : 1 ≤ b.length := by omega
            have HbN : Hid (b ≠ []) := hid (fun e => by rw [e] at hb1; simp at hb1)
            clear hb0
            go_enter Tryz.func110, Tryz.ntmps110
            go_wp2_with (first | refine x_q H ?_ | refine x_e (ev_strIdx rfl rfl rfl (by omega) (by assumption)) ?_ | refine x_e (ev_strLen rfl rfl) ?_ | (revert H; (first | (refine x_g ?_; intro g w1 hg hf H) | (refine x_s ?_; intro w1 hf H)); (first | replace hf := hf.kp | clear hf)))
            go_loopw [4, 6, 7, 8] (fun s4 s6 s7 s8 wr => ∃ (i : Nat) (pre rest : List UInt8) (ml : List Nat) (pv : Value) (S : List Nat), i ≤ s.length ∧ s4 = .int .i64 (i : Int) ∧ s6 = pv ∧ Hid (i = 1 + pre.length) ∧ Hid (b = pre ++ rest) ∧ Hid (pre.all dig = true) ∧ Hid (val ml = num pre) ∧ Hid (Lim ml) ∧ ml.length ≤ pre.length ∧ pre.length ≤ 1024 ∧ Hp [] w wr [.obj 0 S (RowAt 99 1 pv ml.length (limbs ml) S), .blk g [.bool false, .slice none 0 0] 50]) (fun v _ _ _ _ => s.length - (intOf v).toNat)
            case atStart => exact ⟨1, [], b, [], _, _, by omega, rfl, rfl, hid rfl, hid rfl, hid rfl, hid rfl, hid Lim.nil, Nat.le_refl _, Nat.zero_le _, by (refine Hp.arr H ?_; repeat (first | exact Pm.nil _ | (apply Pm.cons; · (repeat first | exact Rm.here _ | apply Rm.there))))⟩
            case round =>
              clear H
              obtain ⟨i, pre, rest, ml, pv, S, hi, rfl, hpv, Hi, Hb, Hpd, Hvm, Hlm, hml, hpl, H⟩ := hrel
              obtain ⟨p5, c5, he, _, hc5, _⟩ := (H.rowo 0).form
              unfold maxLen at hc5
              subst he
              subst hpv
              have hle : pre.length + rest.length = b.length := by rw [Hb.out, List.length_append]
              by_cases hin : i < s.length
              · obtain ⟨c, r', hr'⟩ : ∃ c r', rest = c :: r' := by
                  cases rest with
                  | nil => have := Hi.out; simp at hle; omega
                  | cons c r' => exact ⟨c, r', rfl⟩
                have hcx : s[(i : Int).toNat]? = some c := by
                  rw [Int.toNat_natCast, Hi.out, ← List.getElem?_drop, HB.out, Hb.out, hr']
                  simp
                by_cases hd : dig c = true
                · have hd1 := dig_le hd
                  have HR := hid hr'
                  clear hr'
                  go_wp2_with (first | refine x_q H ?_ | refine x_e (ev_strIdx rfl rfl rfl (by omega) (by assumption)) ?_ | refine x_e (ev_strLen rfl rfl) ?_)
                  obtain ⟨d, hdd⟩ : ∃ d, c.toNat - 48 = d := ⟨_, rfl⟩
                  have hd9 : d ≤ 9 := by omega
                  rw [show ((c.toNat : Int) - 48) = (d : Int) by omega]
                  have HN2 : Hid (num (pre ++ [c]) = 10 * num pre + d) := hid (by rw [num_app, num_one, hdd, List.length_cons, List.length_nil, Nat.zero_add, Nat.pow_one, Nat.mul_comm])
                  have Hb2 : Hid (b = (pre ++ [c]) ++ r') := hid (by rw [Hb.out, HR.out]; simp)
                  have Hd2 : Hid ((pre ++ [c]).all dig = true) := hid (by rw [List.all_append, Hpd.out]; simp [hd])
                  have Hi2 : Hid (i + 1 = 1 + (pre ++ [c]).length) := hid (by have := Hi.out; rw [List.length_append, List.length_cons, List.length_nil]; omega)
                  have hpl2 : (pre ++ [c]).length ≤ 1024 := by have h := congrArg List.length Hb2.out; rw [List.length_append] at h; omega
                  have hpl3 : (pre ++ [c]).length = pre.length + 1 := by rw [List.length_append]; rfl
                  clear hd hd1 hdd Hi Hpd
                  by_cases hml0 : ml.length ≤ 0
                  · have hmn : ml = [] := List.eq_nil_of_length_eq_zero (by omega)
                    have HVo : Hid (val ml + 4294967296 ^ ml.length * d = 10 * val ml + d) := hid (by rw [hmn]; simp [val])
                    have Hol : Hid (ml.length = ml.length) := hid rfl
                    clear hmn
                    go_loopw [7, 8] (fun s7 s8 wr2 => s7 = .int .u64 (d : Int) ∧ s8 = .int .i64 0 ∧ Hp [] w wr2 [.obj 0 S (RowAt 99 1 (.slice p5 ml.length c5) ml.length (limbs ml) S), .blk g [.bool false, .slice none 0 0] 50]) (fun _ _ _ => 0)
                    case atStart => exact ⟨rfl, rfl, H⟩
                    case round =>
                      clear H
                      obtain ⟨rfl, rfl, H⟩ := hrel
                      by_cases hcz : d ≤ 0
                      · have HVm : Hid (val ml = num (pre ++ [c])) := hid (by
                          have h := HVo.out
                          have h2 := HN2.out
                          have h3 := Hvm.out
                          have e : 4294967296 ^ (ml).length * d = 0 := by rw [show d = 0 by omega, Nat.mul_zero]
                          rw [e] at h
                          omega)
                        go_wp2_with (refine x_q H ?_)
                        go_roundw
                        case rel => exact ⟨i + 1, pre ++ [c], r', ml, _, _, by omega, by go_num, rfl, Hi2, Hb2, Hd2, HVm, Hlm, by have := Hol.out; omega, hpl2, by first | exact H | (rw [Hol.out]; exact H)⟩
                        case measure => (simp [intOf]; try omega)
                      · have HVm : Hid (val (ml ++ [d]) = num (pre ++ [c])) := hid (by rw [val_snoc, HVo.out, HN2.out, Hvm.out])
                        have hlen : (ml ++ [d]).length = ml.length + 1 := by rw [List.length_append, Hol.out]; rfl
                        have Hln := hid hlen
                        clear hlen
                        go_wp2_with (first | refine x_q H ?_ | (refine is_blt (b := .append) rfl ?_; go_loud (refine wl_rw rfl (fun K hK => c_aprS H rfl rfl rfl 0 (H.rd (b := g) (off := 0) (vs := [.int .u32 ((d : Int))]) List.prefix_rfl) rfl (by intro u hu; simp only [List.mem_singleton] at hu; subst hu; rfl) (by omega) (by unfold maxLen; omega) (fun p1 c1 w1 S' hf H1 => hK _ _ ?_))); (clear hK K); (clear H; have H := H1; clear H1; (try dsimp only at H); (first | replace hf := hf.kp | clear hf)); (simp only [nrm, ↓reduceIte, Nat.reduceAdd])) | (revert H; (first | (refine x_g ?_; intro g w1 hg hf H) | (refine x_s ?_; intro w1 hf H)); (first | replace hf := hf.kp | clear hf)))
                        rw [limbs_snoc] at H
                        go_roundw
                        case rel => exact ⟨i + 1, pre ++ [c], r', ml ++ [d], _, _, by omega, by go_num, rfl, Hi2, Hb2, Hd2, HVm, hid (Hlm.out.app (Lim.cons (by omega) Lim.nil)), by rw [Hln.out]; omega, hpl2, by rw [Hln.out]; (refine Hp.arr H ?_; repeat (first | exact Pm.nil _ | (apply Pm.cons; · (repeat first | exact Rm.here _ | apply Rm.there))))⟩
                        case measure => (simp [intOf]; try omega)
                  · obtain ⟨gb, cap, pad, hS, hv, hn1, hcap, hpq, H1⟩ := H.rowBlk 0 (show ml.length ≠ 0 by omega)
                    injection hv with e1 e2 e3
                    subst e1 e3
                    clear H hS e2
                    have H := H1
                    clear H1
                    go_loopw [7, 8] (fun s7 s8 wr2 => ∃ (j cc : Nat) (o : List Nat), j ≤ ml.length ∧ s7 = .int .u64 (cc : Int) ∧ s8 = .int .i64 (j : Int) ∧ cc ≤ 10 ∧ Hid (o.length = ml.length) ∧ Hid (Lim o) ∧ Hid (o.drop j = ml.drop j) ∧ Hid (val (o.take j) + 4294967296 ^ j * cc = 10 * val (ml.take j) + d) ∧ Hp [] w wr2 [.blk gb (limbs o ++ pad) 99, .blk g [.bool false, .slice none 0 0] 50]) (fun _ v _ => ml.length - (intOf v).toNat)
                    case atStart => exact ⟨0, d, ml, Nat.zero_le _, rfl, rfl, by omega, hid rfl, Hlm, hid rfl, hid (by simp [val]), H⟩
                    case round =>
                      clear H
                      obtain ⟨j, cc, o, hj, rfl, rfl, hcc, Hol, Hlo, Hod, Hva, H⟩ := hrel
                      by_cases hjn : j < ml.length
                      · obtain ⟨x', hx'⟩ : ∃ x', ml[j]? = some x' := ⟨_, List.getElem?_eq_getElem hjn⟩
                        have hxo : o[j]? = some x' := by
                          have h := congrArg (fun l => l[0]?) Hod.out
                          simp only [List.getElem?_drop, Nat.add_zero] at h
                          rw [h]; exact hx'
                        have hjo : j < o.length := by rw [Hol.out]; exact hjn
                        have hxp := limbs_pad (pad := pad) hxo
                        have hxB := Hlm.out.at hx'
                        have Hx := hid hx'
                        have hpq2 : o.length + pad.length ≤ 4611686018427387904 + o.length + pad.length := by omega
                        have hin3 : j < (limbs o ++ pad).length := by rw [List.length_append, limbs_len]; omega
                        clear hx' hxo hpq2
                        go_wp2_with (first | refine x_q H ?_ | refine x_e (ev_high rfl rfl) ?_ | (revert H; (first | (refine x_g ?_; intro g w1 hg hf H) | (refine x_s ?_; intro w1 hf H)); (first | replace hf := hf.kp | clear hf)))
                        have e1 : ((cc : Int) + 10 * (x' : Int)) % 4294967296 = (((cc + 10 * x') % 4294967296 : Nat) : Int) := by omega
                        have e2 : ((cc : Int) + 10 * (x' : Int)) / 4294967296 = (((cc + 10 * x') / 4294967296 : Nat) : Int) := by omega
                        rw [e1, limbs_pad_set hjo] at H
                        rw [e2]
                        clear e1 e2
                        go_roundw
                        case rel => exact ⟨j + 1, (cc + 10 * x') / 4294967296, o.set j ((cc + 10 * x') % 4294967296), by omega, rfl, by go_num, by omega, hid (by rw [List.length_set]; exact Hol.out), hid (Hlo.out.set j (Nat.mod_lt _ (by decide))), hid (by
                          have h := congrArg (List.drop 1) Hod.out
                          rw [List.drop_drop, List.drop_drop] at h
                          rw [List.drop_set_of_lt (by omega)]
                          exact h), hid (by rw [take_set_succ _ _ _ hjo, val_snoc, List.length_take, Nat.min_eq_left (by omega), val_take_succ Hx.out, Nat.pow_succ]; exact ten_round Hva.out), H⟩
                        case measure => (simp [intOf]; try omega)
                      · have hjn2 : j = ml.length := by omega
                        have HVo : Hid (val o + 4294967296 ^ o.length * cc = 10 * val ml + d) := hid (by
                          have h := Hva.out
                          rw [hjn2, List.take_of_length_le (by rw [Hol.out]; exact Nat.le_refl _), List.take_of_length_le (Nat.le_refl _)] at h
                          rw [Hol.out]; exact h)
                        have H1 := H.blkRowN 0 (n := ml.length) (cap := c5) (by rw [limbs_len, Hol.out, Nat.mul_one]) hn1 hcap (by have := hpq; rw [List.length_append, limbs_len] at this ⊢; rw [Hol.out]; exact this)
                        have hjn3 : ml.length ≤ j := by omega
                        clear H hjn hjn2
                        have H := H1
                        clear H1
                        by_cases hcz : cc ≤ 0
                        · have HVm : Hid (val o = num (pre ++ [c])) := hid (by
                            have h := HVo.out
                            have h2 := HN2.out
                            have h3 := Hvm.out
                            have e : 4294967296 ^ (o).length * cc = 0 := by rw [show cc = 0 by omega, Nat.mul_zero]
                            rw [e] at h
                            omega)
                          go_wp2_with (refine x_q H ?_)
                          go_roundw
                          case rel => exact ⟨i + 1, pre ++ [c], r', o, _, _, by omega, by go_num, rfl, Hi2, Hb2, Hd2, HVm, Hlo, by have := Hol.out; omega, hpl2, by first | exact H | (rw [Hol.out]; exact H)⟩
                          case measure => (simp [intOf]; try omega)
                        · have HVm : Hid (val (o ++ [cc]) = num (pre ++ [c])) := hid (by rw [val_snoc, HVo.out, HN2.out, Hvm.out])
                          have hlen : (o ++ [cc]).length = ml.length + 1 := by rw [List.length_append, Hol.out]; rfl
                          have Hln := hid hlen
                          clear hlen
                          go_wp2_with (first | refine x_q H ?_ | (refine is_blt (b := .append) rfl ?_; go_loud (refine wl_rw rfl (fun K hK => c_aprS H rfl rfl rfl 0 (H.rd (b := g) (off := 0) (vs := [.int .u32 ((cc : Int))]) List.prefix_rfl) rfl (by intro u hu; simp only [List.mem_singleton] at hu; subst hu; rfl) (by omega) (by unfold maxLen; omega) (fun p1 c1 w1 S' hf H1 => hK _ _ ?_))); (clear hK K); (clear H; have H := H1; clear H1; (try dsimp only at H); (first | replace hf := hf.kp | clear hf)); (simp only [nrm, ↓reduceIte, Nat.reduceAdd])) | (revert H; (first | (refine x_g ?_; intro g w1 hg hf H) | (refine x_s ?_; intro w1 hf H)); (first | replace hf := hf.kp | clear hf)))
                          rw [limbs_snoc] at H
                          go_roundw
                          case rel => exact ⟨i + 1, pre ++ [c], r', o ++ [cc], _, _, by omega, by go_num, rfl, Hi2, Hb2, Hd2, HVm, hid (Hlo.out.app (Lim.cons (by omega) Lim.nil)), by rw [Hln.out]; omega, hpl2, by rw [Hln.out]; (refine Hp.arr H ?_; repeat (first | exact Pm.nil _ | (apply Pm.cons; · (repeat first | exact Rm.here _ | apply Rm.there))))⟩
                          case measure => (simp [intOf]; try omega)
                · have hz := HZ.out (.inr (by rw [Hb.out, hr', List.all_append, List.all_cons]; simp [hd]))
                  have HZ2 := hid hz
                  have hd1 : (c.toNat : Int) < 48 ∨ 57 < (c.toNat : Int) := by unfold dig at hd; simp at hd; omega
                  clear hz
                  rcases hd1 with hd1 | hd1
                  all_goals
                    go_wp2_with (first | refine x_q H ?_ | refine x_e (ev_strIdx rfl rfl rfl (by omega) (by assumption)) ?_ | refine x_e (ev_strLen rfl rfl) ?_ | (revert H; refine x_s2 ?_; intro w1 hf H hk; clear hf; change Kp _ _ at hk))
                    refine c_postCT H rfl rfl rfl rfl ?_
                    rw [HZ2.out]
                    exact ⟨_, rfl, H.fr, (bv_zero _).mono (Nat.zero_le _)⟩
              · have hre : rest = [] := List.eq_nil_of_length_eq_zero (by have := Hi.out; omega)
                have Hpe : Hid (pre = b) := hid (by rw [Hb.out, hre, List.append_nil])
                have HV2 := hid (HV.out HbN.out (by rw [← Hpe.out]; exact Hpd.out))
                obtain ⟨p6, c6, e6, e7, hL⟩ := LR.of_row (H.rowo 0) Hlm.out
                injection e6 with e61 e62 e63
                subst e61 e63
                have HL := hid hL
                clear hL e7 e62
                go_wp2_with (first | refine x_q H ?_ | refine x_e (ev_strLen rfl rfl) ?_)
                (refine x_c H (make1_bv false ml rfl (by omega) (lr HL) 1024 (by omega)) ?_; clear H; rintro e w1 ⟨v6, rfl, hF, hB⟩ H; replace hF := hF.kp; rw [Hvm.out, Hpe.out] at hB; obtain ⟨b6, p6, m6, c6, rfl⟩ := hB.form; have HB6 := hid hB; clear hB)
                go_wp2_with (revert H; refine x_s2 ?_; intro w1 hf H hk; clear hf; change Kp _ _ at hk)
                refine c_postCT H rfl rfl rfl rfl ?_
                rw [HV2.out, HS.out]
                exact ⟨_, rfl, H.fr, bv HB6⟩
        · have hn1 : x ≠ 45 := fun e => h1 ((hu 45 (by decide)).2 e)
          have hn2 : x ≠ 43 := fun e => h2 ((hu 43 (by decide)).2 e)
          have HS : Hid (sgn s = false) := hid (by unfold sgn; rw [hhd]; simpa using hn1)
          have HB : Hid (s.drop 0 = b) := hid (by rw [← hb]; unfold body; rw [if_neg (by rw [hhd]; rintro (e | e); exact hn1 (Option.some.inj e); exact hn2 (Option.some.inj e)), List.drop_zero])
          have hxa : ¬ (x.toNat : Int) = 45 := by omega
          have hxb : ¬ (x.toNat : Int) = 43 := by omega
          clear hx hhd hu h1 h2 hb hn1 hn2
          have hbl : b.length + 0 = s.length := by rw [← HB.out, List.length_drop]; omega
          by_cases hb0 : b.length ≤ 0
          · (exfalso; omega)
          · have hb1 : 1 ≤ b.length := by omega
            have HbN : Hid (b ≠ []) := hid (fun e => by rw [e] at hb1; simp at hb1)
            clear hb0
            go_enter Tryz.func110, Tryz.ntmps110
            go_wp2_with (first | refine x_q H ?_ | refine x_e (ev_strIdx rfl rfl rfl (by omega) (by assumption)) ?_ | refine x_e (ev_strLen rfl rfl) ?_ | (revert H; (first | (refine x_g ?_; intro g w1 hg hf H) | (refine x_s ?_; intro w1 hf H)); (first | replace hf := hf.kp | clear hf)))
            go_loopw [4, 6, 7, 8] (fun s4 s6 s7 s8 wr => ∃ (i : Nat) (pre rest : List UInt8) (ml : List Nat) (pv : Value) (S : List Nat), i ≤ s.length ∧ s4 = .int .i64 (i : Int) ∧ s6 = pv ∧ Hid (i = 0 + pre.length) ∧ Hid (b = pre ++ rest) ∧ Hid (pre.all dig = true) ∧ Hid (val ml = num pre) ∧ Hid (Lim ml) ∧ ml.length ≤ pre.length ∧ pre.length ≤ 1024 ∧ Hp [] w wr [.obj 0 S (RowAt 99 1 pv ml.length (limbs ml) S), .blk g [.bool false, .slice none 0 0] 50]) (fun v _ _ _ _ => s.length - (intOf v).toNat)
            case atStart => exact ⟨0, [], b, [], _, _, by omega, rfl, rfl, hid rfl, hid rfl, hid rfl, hid rfl, hid Lim.nil, Nat.le_refl _, Nat.zero_le _, by (refine Hp.arr H ?_; repeat (first | exact Pm.nil _ | (apply Pm.cons; · (repeat first | exact Rm.here _ | apply Rm.there))))⟩
            case round =>
              clear H
              obtain ⟨i, pre, rest, ml, pv, S, hi, rfl, hpv, Hi, Hb, Hpd, Hvm, Hlm, hml, hpl, H⟩ := hrel
              obtain ⟨p5, c5, he, _, hc5, _⟩ := (H.rowo 0).form
              unfold maxLen at hc5
              subst he
              subst hpv
              have hle : pre.length + rest.length = b.length := by rw [Hb.out, List.length_append]
              by_cases hin : i < s.length
              · obtain ⟨c, r', hr'⟩ : ∃ c r', rest = c :: r' := by
                  cases rest with
                  | nil => have := Hi.out; simp at hle; omega
                  | cons c r' => exact ⟨c, r', rfl⟩
                have hcx : s[(i : Int).toNat]? = some c := by
                  rw [Int.toNat_natCast, Hi.out, ← List.getElem?_drop, HB.out, Hb.out, hr']
                  simp
                by_cases hd : dig c = true
                · have hd1 := dig_le hd
                  have HR := hid hr'
                  clear hr'
                  go_wp2_with (first | refine x_q H ?_ | refine x_e (ev_strIdx rfl rfl rfl (by omega) (by assumption)) ?_ | refine x_e (ev_strLen rfl rfl) ?_)
                  obtain ⟨d, hdd⟩ : ∃ d, c.toNat - 48 = d := ⟨_, rfl⟩
                  have hd9 : d ≤ 9 := by omega
                  rw [show ((c.toNat : Int) - 48) = (d : Int) by omega]
                  have HN2 : Hid (num (pre ++ [c]) = 10 * num pre + d) := hid (by rw [num_app, num_one, hdd, List.length_cons, List.length_nil, Nat.zero_add, Nat.pow_one, Nat.mul_comm])
                  have Hb2 : Hid (b = (pre ++ [c]) ++ r') := hid (by rw [Hb.out, HR.out]; simp)
                  have Hd2 : Hid ((pre ++ [c]).all dig = true) := hid (by rw [List.all_append, Hpd.out]; simp [hd])
                  have Hi2 : Hid (i + 1 = 0 + (pre ++ [c]).length) := hid (by have := Hi.out; rw [List.length_append, List.length_cons, List.length_nil]; omega)
                  have hpl2 : (pre ++ [c]).length ≤ 1024 := by have h := congrArg List.length Hb2.out; rw [List.length_append] at h; omega
                  have hpl3 : (pre ++ [c]).length = pre.length + 1 := by rw [List.length_append]; rfl
                  clear hd hd1 hdd Hi Hpd
                  by_cases hml0 : ml.length ≤ 0
                  · have hmn : ml = [] := List.eq_nil_of_length_eq_zero (by omega)
                    have HVo : Hid (val ml + 4294967296 ^ ml.length * d = 10 * val ml + d) := hid (by rw [hmn]; simp [val])
                    have Hol : Hid (ml.length = ml.length) := hid rfl
                    clear hmn
                    go_loopw [7, 8] (fun s7 s8 wr2 => s7 = .int .u64 (d : Int) ∧ s8 = .int .i64 0 ∧ Hp [] w wr2 [.obj 0 S (RowAt 99 1 (.slice p5 ml.length c5) ml.length (limbs ml) S), .blk g [.bool false, .slice none 0 0] 50]) (fun _ _ _ => 0)
                    case atStart => exact ⟨rfl, rfl, H⟩
                    case round =>
                      clear H
                      obtain ⟨rfl, rfl, H⟩ := hrel
                      by_cases hcz : d ≤ 0
                      · have HVm : Hid (val ml = num (pre ++ [c])) := hid (by
                          have h := HVo.out
                          have h2 := HN2.out
                          have h3 := Hvm.out
                          have e : 4294967296 ^ (ml).length * d = 0 := by rw [show d = 0 by omega, Nat.mul_zero]
                          rw [e] at h
                          omega)
                        go_wp2_with (refine x_q H ?_)
                        go_roundw
                        case rel => exact ⟨i + 1, pre ++ [c], r', ml, _, _, by omega, by go_num, rfl, Hi2, Hb2, Hd2, HVm, Hlm, by have := Hol.out; omega, hpl2, by first | exact H | (rw [Hol.out]; exact H)⟩
                        case measure => (simp [intOf]; try omega)
                      · have HVm : Hid (val (ml ++ [d]) = num (pre ++ [c])) := hid (by rw [val_snoc, HVo.out, HN2.out, Hvm.out])
                        have hlen : (ml ++ [d]).length = ml.length + 1 := by rw [List.length_append, Hol.out]; rfl
                        have Hln := hid hlen
                        clear hlen
                        go_wp2_with (first | refine x_q H ?_ | (refine is_blt (b := .append) rfl ?_; go_loud (refine wl_rw rfl (fun K hK => c_aprS H rfl rfl rfl 0 (H.rd (b := g) (off := 0) (vs := [.int .u32 ((d : Int))]) List.prefix_rfl) rfl (by intro u hu; simp only [List.mem_singleton] at hu; subst hu; rfl) (by omega) (by unfold maxLen; omega) (fun p1 c1 w1 S' hf H1 => hK _ _ ?_))); (clear hK K); (clear H; have H := H1; clear H1; (try dsimp only at H); (first | replace hf := hf.kp | clear hf)); (simp only [nrm, ↓reduceIte, Nat.reduceAdd])) | (revert H; (first | (refine x_g ?_; intro g w1 hg hf H) | (refine x_s ?_; intro w1 hf H)); (first | replace hf := hf.kp | clear hf)))
                        rw [limbs_snoc] at H
                        go_roundw
                        case rel => exact ⟨i + 1, pre ++ [c], r', ml ++ [d], _, _, by omega, by go_num, rfl, Hi2, Hb2, Hd2, HVm, hid (Hlm.out.app (Lim.cons (by omega) Lim.nil)), by rw [Hln.out]; omega, hpl2, by rw [Hln.out]; (refine Hp.arr H ?_; repeat (first | exact Pm.nil _ | (apply Pm.cons; · (repeat first | exact Rm.here _ | apply Rm.there))))⟩
                        case measure => (simp [intOf]; try omega)
                  · obtain ⟨gb, cap, pad, hS, hv, hn1, hcap, hpq, H1⟩ := H.rowBlk 0 (show ml.length ≠ 0 by omega)
                    injection hv with e1 e2 e3
                    subst e1 e3
                    clear H hS e2
                    have H := H1
                    clear H1
                    go_loopw [7, 8] (fun s7 s8 wr2 => ∃ (j cc : Nat) (o : List Nat), j ≤ ml.length ∧ s7 = .int .u64 (cc : Int) ∧ s8 = .int .i64 (j : Int) ∧ cc ≤ 10 ∧ Hid (o.length = ml.length) ∧ Hid (Lim o) ∧ Hid (o.drop j = ml.drop j) ∧ Hid (val (o.take j) + 4294967296 ^ j * cc = 10 * val (ml.take j) + d) ∧ Hp [] w wr2 [.blk gb (limbs o ++ pad) 99, .blk g [.bool false, .slice none 0 0] 50]) (fun _ v _ => ml.length - (intOf v).toNat)
                    case atStart => exact ⟨0, d, ml, Nat.zero_le _, rfl, rfl, by omega, hid rfl, Hlm, hid rfl, hid (by simp [val]), H⟩
                    case round =>
                      clear H
                      obtain ⟨j, cc, o, hj, rfl, rfl, hcc, Hol, Hlo, Hod, Hva, H⟩ := hrel
                      by_cases hjn : j < ml.length
                      · obtain ⟨x', hx'⟩ : ∃ x', ml[j]? = some x' := ⟨_, List.getElem?_eq_getElem hjn⟩
                        have hxo : o[j]? = some x' := by
                          have h := congrArg (fun l => l[0]?) Hod.out
                          simp only [List.getElem?_drop, Nat.add_zero] at h
                          rw [h]; exact hx'
                        have hjo : j < o.length := by rw [Hol.out]; exact hjn
                        have hxp := limbs_pad (pad := pad) hxo
                        have hxB := Hlm.out.at hx'
                        have Hx := hid hx'
                        have hpq2 : o.length + pad.length ≤ 4611686018427387904 + o.length + pad.length := by omega
                        have hin3 : j < (limbs o ++ pad).length := by rw [List.length_append, limbs_len]; omega
                        clear hx' hxo hpq2
                        go_wp2_with (first | refine x_q H ?_ | refine x_e (ev_high rfl rfl) ?_ | (revert H; (first | (refine x_g ?_; intro g w1 hg hf H) | (refine x_s ?_; intro w1 hf H)); (first | replace hf := hf.kp | clear hf)))
                        have e1 : ((cc : Int) + 10 * (x' : Int)) % 4294967296 = (((cc + 10 * x') % 4294967296 : Nat) : Int) := by omega
                        have e2 : ((cc : Int) + 10 * (x' : Int)) / 4294967296 = (((cc + 10 * x') / 4294967296 : Nat) : Int) := by omega
                        rw [e1, limbs_pad_set hjo] at H
                        rw [e2]
                        clear e1 e2
                        go_roundw
                        case rel => exact ⟨j + 1, (cc + 10 * x') / 4294967296, o.set j ((cc + 10 * x') % 4294967296), by omega, rfl, by go_num, by omega, hid (by rw [List.length_set]; exact Hol.out), hid (Hlo.out.set j (Nat.mod_lt _ (by decide))), hid (by
                          have h := congrArg (List.drop 1) Hod.out
                          rw [List.drop_drop, List.drop_drop] at h
                          rw [List.drop_set_of_lt (by omega)]
                          exact h), hid (by rw [take_set_succ _ _ _ hjo, val_snoc, List.length_take, Nat.min_eq_left (by omega), val_take_succ Hx.out, Nat.pow_succ]; exact ten_round Hva.out), H⟩
                        case measure => (simp [intOf]; try omega)
                      · have hjn2 : j = ml.length := by omega
                        have HVo : Hid (val o + 4294967296 ^ o.length * cc = 10 * val ml + d) := hid (by
                          have h := Hva.out
                          rw [hjn2, List.take_of_length_le (by rw [Hol.out]; exact Nat.le_refl _), List.take_of_length_le (Nat.le_refl _)] at h
                          rw [Hol.out]; exact h)
                        have H1 := H.blkRowN 0 (n := ml.length) (cap := c5) (by rw [limbs_len, Hol.out, Nat.mul_one]) hn1 hcap (by have := hpq; rw [List.length_append, limbs_len] at this ⊢; rw [Hol.out]; exact this)
                        have hjn3 : ml.length ≤ j := by omega
                        clear H hjn hjn2
                        have H := H1
                        clear H1
                        by_cases hcz : cc ≤ 0
                        · have HVm : Hid (val o = num (pre ++ [c])) := hid (by
                            have h := HVo.out
                            have h2 := HN2.out
                            have h3 := Hvm.out
                            have e : 4294967296 ^ (o).length * cc = 0 := by rw [show cc = 0 by omega, Nat.mul_zero]
                            rw [e] at h
                            omega)
                          go_wp2_with (refine x_q H ?_)
                          go_roundw
                          case rel => exact ⟨i + 1, pre ++ [c], r', o, _, _, by omega, by go_num, rfl, Hi2, Hb2, Hd2, HVm, Hlo, by have := Hol.out; omega, hpl2, by first | exact H | (rw [Hol.out]; exact H)⟩
                          case measure => (simp [intOf]; try omega)
                        · have HVm : Hid (val (o ++ [cc]) = num (pre ++ [c])) := hid (by rw [val_snoc, HVo.out, HN2.out, Hvm.out])
                          have hlen : (o ++ [cc]).length = ml.length + 1 := by rw [List.length_append, Hol.out]; rfl
                          have Hln := hid hlen
                          clear hlen
                          go_wp2_with (first | refine x_q H ?_ | (refine is_blt (b := .append) rfl ?_; go_loud (refine wl_rw rfl (fun K hK => c_aprS H rfl rfl rfl 0 (H.rd (b := g) (off := 0) (vs := [.int .u32 ((cc : Int))]) List.prefix_rfl) rfl (by intro u hu; simp only [List.mem_singleton] at hu; subst hu; rfl) (by omega) (by unfold maxLen; omega) (fun p1 c1 w1 S' hf H1 => hK _ _ ?_))); (clear hK K); (clear H; have H := H1; clear H1; (try dsimp only at H); (first | replace hf := hf.kp | clear hf)); (simp only [nrm, ↓reduceIte, Nat.reduceAdd])) | (revert H; (first | (refine x_g ?_; intro g w1 hg hf H) | (refine x_s ?_; intro w1 hf H)); (first | replace hf := hf.kp | clear hf)))
                          rw [limbs_snoc] at H
                          go_roundw
                          case rel => exact ⟨i + 1, pre ++ [c], r', o ++ [cc], _, _, by omega, by go_num, rfl, Hi2, Hb2, Hd2, HVm, hid (Hlo.out.app (Lim.cons (by omega) Lim.nil)), by rw [Hln.out]; omega, hpl2, by rw [Hln.out]; (refine Hp.arr H ?_; repeat (first | exact Pm.nil _ | (apply Pm.cons; · (repeat first | exact Rm.here _ | apply Rm.there))))⟩
                          case measure => (simp [intOf]; try omega)
                · have hz := HZ.out (.inr (by rw [Hb.out, hr', List.all_append, List.all_cons]; simp [hd]))
                  have HZ2 := hid hz
                  have hd1 : (c.toNat : Int) < 48 ∨ 57 < (c.toNat : Int) := by unfold dig at hd; simp at hd; omega
                  clear hz
                  rcases hd1 with hd1 | hd1
                  all_goals
                    go_wp2_with (first | refine x_q H ?_ | refine x_e (ev_strIdx rfl rfl rfl (by omega) (by assumption)) ?_ | refine x_e (ev_strLen rfl rfl) ?_ | (revert H; refine x_s2 ?_; intro w1 hf H hk; clear hf; change Kp _ _ at hk))
                    refine c_postCT H rfl rfl rfl rfl ?_
                    rw [HZ2.out]
                    exact ⟨_, rfl, H.fr, (bv_zero _).mono (Nat.zero_le _)⟩
              · have hre : rest = [] := List.eq_nil_of_length_eq_zero (by have := Hi.out; omega)
                have Hpe : Hid (pre = b) := hid (by rw [Hb.out, hre, List.append_nil])
                have HV2 := hid (HV.out HbN.out (by rw [← Hpe.out]; exact Hpd.out))
                obtain ⟨p6, c6, e6, e7, hL⟩ := LR.of_row (H.rowo 0) Hlm.out
                injection e6 with e61 e62 e63
                subst e61 e63
                have HL := hid hL
                clear hL e7 e62
                go_wp2_with (first | refine x_q H ?_ | refine x_e (ev_strLen rfl rfl) ?_)
                (refine x_c H (make1_bv false ml rfl (by omega) (lr HL) 1024 (by omega)) ?_; clear H; rintro e w1 ⟨v6, rfl, hF, hB⟩ H; replace hF := hF.kp; rw [Hvm.out, Hpe.out] at hB; obtain ⟨b6, p6, m6, c6, rfl⟩ := hB.form; have HB6 := hid hB; clear hB)
                go_wp2_with (revert H; refine x_s2 ?_; intro w1 hf H hk; clear hf; change Kp _ _ at hk)
                refine c_postCT H rfl rfl rfl rfl ?_
                rw [HV2.out, HS.out]
                exact ⟨_, rfl, H.fr, bv HB6⟩
end Go.Proofs.YthbeeeclgbpopaaGreatDoor
