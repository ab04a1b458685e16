import Derived.Test.YtbiohhmpclnpgaaGreatDoorXIw8
import Derived.Deep.DeepCutAuto
import Derived.Deep.CutBlock
namespace Go.Proofs.YtbiohhmpclnpgaaGreatDoor
open Go.RowKit
set_option linter.unusedSimpArgs false
set_option linter.unusedVariables false
set_option maxHeartbeats 4000000
set_option maxRecDepth 100000
theorem times_next (i j x y V T : Nat) : V + 4294967296 ^ i * (x * T) + 4294967296 ^ (i + j) * (x * y) = V + 4294967296 ^ i * (x * (T + 4294967296 ^ j * y)) := by
 rw [Nat.pow_add, Nat.mul_add x, Nat.mul_add, Nat.mul_assoc, Nat.mul_left_comm x, Nat.add_assoc]
theorem times_row (i x A B : Nat) : A * B + 4294967296 ^ i * (x * B) = (A + 4294967296 ^ i * x) * B := by
 rw [Nat.add_mul, Nat.mul_assoc]
theorem wrapN {z : Int} (n : Nat) (h : z = (n : Int)) (hn : n < 18446744073709551616) : IntKind.u64.wrap z = (n : Int) := by
 rw [h, IntKind.wrap_u64]; omega
theorem mul_word {x y o cy : Nat} (hx : x < 4294967296) (hy : y < 4294967296) (ho : o < 4294967296) (hc : cy < 4294967296) :
  IntKind.u64.wrap (IntKind.u64.wrap (IntKind.u64.wrap ((x : Int) * (y : Int)) + (o : Int)) + (cy : Int)) = ((x * y + o + cy : Nat) : Int) := by
 have hb := times_bound hx hy ho hc
 have e1 : IntKind.u64.wrap ((x : Int) * (y : Int)) = ((x * y : Nat) : Int) := wrapN _ (by rw [Int.natCast_mul]) (by omega)
 rw [e1]
 have e2 : IntKind.u64.wrap (((x * y : Nat) : Int) + (o : Int)) = ((x * y + o : Nat) : Int) := wrapN _ (by omega) (by omega)
 rw [e2]
 exact wrapN _ (by omega) hb
theorem low_nat {t : Nat} (h : t < 18446744073709551616) : bits .and .u64 (t : Int) 4294967295 % 4294967296 = ((t % 4294967296 : Nat) : Int) := by
 rw [and_low32 _ (by omega) (by omega)]; omega
set_option maxHeartbeats 8000000 in
theorem times_any {w : World} {p q : Option Addr} {n m c d : Nat} (a b : List Nat) (hn : a.length = n) (hm : b.length = m) (hn0 : n ≤ 400000) (hm0 : m ≤ 400000) (h : LR w p c a) (k : LR w q d b) :
  Calls Tryz.prog 49 #[.slice p n c, .slice q m d] w fun e w' => ∃ p' c', e = .returned (.slice p' (digs (val a * val b)).length c') ∧ Fr [] w w' ∧ LR w' p' c' (digs (val a * val b)) := by
 subst hn hm
 have Hh := hid h
 have Hk := hid k
 clear h k
 have H := Hp.start [] w
 by_cases ha : a.length ≤ 0
 ·have e : val a = 0 := by rw [List.eq_nil_of_length_eq_zero (show a.length = 0 by omega)]; rfl
  have He := hid e
  clear e
  go_enter Tryz.func49, Tryz.ntmps49
  go_wp2_with (first | refine x_q H ?_ | refine x_cm (fun h => ?_) (fun h => ?_) | (revert H; refine x_g ?_; intro g w1 hg hf H; (try clear hf)) | (revert H; refine x_s ?_; intro w1 hf H; (try clear hf)))
  go_ret
  rw [He.out, Nat.zero_mul, digs_zero]
  exact ⟨none, 0, rfl, H.fr, LR.zero _⟩
 by_cases hb : b.length ≤ 0
 ·have e : val b = 0 := by rw [List.eq_nil_of_length_eq_zero (show b.length = 0 by omega)]; rfl
  have He := hid e
  clear e
  go_enter Tryz.func49, Tryz.ntmps49
  go_wp2_with (first | refine x_q H ?_ | refine x_cm (fun h => ?_) (fun h => ?_) | (revert H; refine x_g ?_; intro g w1 hg hf H; (try clear hf)) | (revert H; refine x_s ?_; intro w1 hf H; (try clear hf)))
  go_ret
  rw [He.out, Nat.mul_zero, digs_zero]
  exact ⟨none, 0, rfl, H.fr, LR.zero _⟩
 have ha1 : 0 < a.length := by omega
 have hb1 : 0 < b.length := by omega
 clear ha hb
 go_enter Tryz.func49, Tryz.ntmps49
 go_wp2_with (first | refine x_q H ?_ | refine x_cm (fun h => ?_) (fun h => ?_) | (revert H; refine x_g ?_; intro g w1 hg hf H; (try clear hf)) | (revert H; refine x_s ?_; intro w1 hf H; (try clear hf)))
 rw [show ((a.length : Int) + (b.length : Int)).toNat = a.length + b.length by omega, zeros_limbs] at H
 go_loopw [28] (fun s28 wr => ∃ (i : Nat) (o : List Nat), i ≤ a.length ∧ s28 = .int .i64 i ∧ Hid (o.length = a.length + b.length) ∧ Hid (Lim o) ∧ Hid (val o = val (a.take i) * val b) ∧ Hid (∀ k, i + b.length ≤ k → k < a.length + b.length → o[k]? = some 0) ∧ Hp [] w wr [.blk g (limbs o) 104]) (fun v _ => a.length - (intOf v).toNat)
 case atStart => exact ⟨0, List.replicate (a.length + b.length) 0, Nat.zero_le _, rfl, hid List.length_replicate, hid (Lim.zeros _), hid (by rw [val_zeros]; simp [val]), hid (fun k _ hk => by rw [List.getElem?_replicate, if_pos hk]), H⟩
 case round =>
  clear H
  obtain ⟨i, o, hi, rfl, Hol, Hlo, Hv, Hz, H⟩ := hrel
  by_cases hin : i < a.length
  ·obtain ⟨x, hx⟩ : ∃ x, a[i]? = some x := ⟨_, List.getElem?_eq_getElem hin⟩
   have hxv := limbs_at hx
   have hxB := Hh.out.lim.at hx
   have Hx := hid hx
   clear hx
   obtain ⟨b0, off, rfl, hb0, hcell⟩ := Hh.out.rd.rng (limbs_ne (i := i) hin)
   have H1 := H.pushRng (b := b0) (off := off) hb0 (by simp) hcell
   clear H hcell
   have H := H1
   clear H1
   go_wp2_with (first | refine x_q H ?_ | refine x_cm (fun h => ?_) (fun h => ?_) | (revert H; refine x_g ?_; intro g w1 hg hf H; (try clear hf)) | (revert H; refine x_s ?_; intro w1 hf H; (try clear hf)))
   have H1 := H.sub (l' := [.blk g (limbs o) 104]) (by repeat first | exact List.Sublist.refl _ | exact List.nil_sublist _ | apply List.Sublist.cons_cons | apply List.Sublist.cons)
   clear H
   have H := H1
   clear H1
   go_loopw [8, 35] (fun s8 s35 wr => ∃ (j : Nat) (o : List Nat) (cy : Nat), j ≤ b.length ∧ s35 = .int .i64 j ∧ s8 = .int .u64 cy ∧ cy < 4294967296 ∧ Hid (o.length = a.length + b.length) ∧ Hid (Lim o) ∧ Hid (val o + 4294967296 ^ (i + j) * cy = val (a.take i) * val b + 4294967296 ^ i * (x * val (b.take j))) ∧ Hid (∀ k, i + b.length ≤ k → k < a.length + b.length → o[k]? = some 0) ∧ Hp [] w wr [.blk g (limbs o) 104]) (fun _ v _ => b.length - (intOf v).toNat)
   case atStart => exact ⟨0, o, 0, Nat.zero_le _, rfl, rfl, by decide, Hol, Hlo, hid (by rw [Hv.out]; simp [val]), Hz, H⟩
   case round =>
    clear H Hol Hlo Hv Hz
    clear o
    obtain ⟨j, o, cy, hj, rfl, rfl, hcy, Hol, Hlo, Hv, Hz, H⟩ := hrel
    by_cases hjn : j < b.length
    ·obtain ⟨y, hy⟩ : ∃ y, b[j]? = some y := ⟨_, List.getElem?_eq_getElem hjn⟩
     have hyv := limbs_at hy
     have hyB := Hk.out.lim.at hy
     have Hy := hid hy
     clear hy
     have hij : i + j < o.length := by rw [Hol.out]; omega
     obtain ⟨ov, hov⟩ : ∃ ov, o[i + j]? = some ov := ⟨_, List.getElem?_eq_getElem hij⟩
     have hovv : (limbs o)[((i : Int) + (j : Int)).toNat]? = some (.int .u32 (ov : Int)) := by rw [show ((i : Int) + (j : Int)).toNat = i + j by omega]; exact limbs_at hov
     have hoB := Hlo.out.at hov
     have Hov := hid hov
     clear hov
     obtain ⟨b1, off1, he1, hb1', hcell1⟩ := Hk.out.rd.rng (limbs_ne (i := j) hjn)
     have H1 := H.pushRng (b := b1) (off := off1) hb1' (by simp) hcell1
     clear H hcell1
     have H := H1
     clear H1
     subst he1
     have HM := hid (mul_word hxB hyB hoB hcy)
     have HT : Hid (∃ t, x * y + ov + cy = t ∧ t < 18446744073709551616) := hid ⟨_, rfl, times_bound hxB hyB hoB hcy⟩
     obtain ⟨t, ht, htB⟩ := HT.out
     rw [ht] at HM
     have Ht := hid ht
     clear ht HT
     go_wp2_with (first | refine x_q H ?_ | refine x_cm (fun h => ?_) (fun h => ?_) | refine x_e (ev_low rfl rfl) ?_ | refine x_e (ev_high rfl rfl) ?_ | (revert H; refine x_g ?_; intro g w1 hg hf H; (try clear hf)) | (revert H; refine x_s ?_; intro w1 hf H; (try clear hf)))
     rw [HM.out, low_nat htB, show ((i : Int) + (j : Int)).toNat = i + j by omega, limbs_set] at H
     rw [HM.out]
     go_roundw
     case rel => exact ⟨j + 1, o.set (i + j) (t % 4294967296), t / 4294967296, by omega, by go_num, by rw [Int.natCast_ediv]; rfl, by omega, hid (by rw [List.length_set]; exact Hol.out), hid (Hlo.out.set _ (Nat.mod_lt _ (by decide))), hid (by rw [← Nat.add_assoc, times_round Hov.out Hv.out Ht.out.symm, val_take_succ Hy.out]; exact times_next ..), hid (fun k hk1 hk2 => by rw [List.getElem?_set_ne (by omega)]; exact Hz.out k hk1 hk2), H.sub (by repeat first | exact List.Sublist.refl _ | exact List.nil_sublist _ | apply List.Sublist.cons_cons | apply List.Sublist.cons)⟩
     case measure => (simp [intOf]; try omega)
    ·have e : j = b.length := by omega
     have hib : i + b.length < o.length := by rw [Hol.out]; omega
     have H0 := hid (Hz.out (i + b.length) (Nat.le_refl _) (by omega))
     have HV : Hid (val (o.set (i + b.length) cy) = val (a.take (i + 1)) * val b) := hid (by
      have hv := Hv.out
      rw [e, List.take_of_length_le (Nat.le_refl _)] at hv
      rw [set_zero_end H0.out hv, val_take_succ Hx.out]
      exact times_row ..)
     clear e
     go_wp2_with (first | refine x_q H ?_ | refine x_cm (fun h => ?_) (fun h => ?_) | refine x_e (ev_low rfl rfl) ?_ | refine x_e (ev_high rfl rfl) ?_ | (revert H; refine x_g ?_; intro g w1 hg hf H; (try clear hf)) | (revert H; refine x_s ?_; intro w1 hf H; (try clear hf)))
     rw [show ((i : Int) + (b.length : Int)).toNat = i + b.length by omega, limbs_set] at H
     go_roundw
     case rel => exact ⟨i + 1, o.set (i + b.length) cy, by omega, by go_num, hid (by rw [List.length_set]; exact Hol.out), hid (Hlo.out.set _ hcy), HV, hid (fun k hk1 hk2 => by rw [List.getElem?_set_ne (by omega)]; exact Hz.out k (by omega) hk2), H⟩
     case measure => (simp [intOf]; try omega)
  ·have e : i = a.length := by omega
   have HV : Hid (val o = val a * val b) := hid (by rw [Hv.out, e, List.take_of_length_le (Nat.le_refl _)])
   clear e
   go_wp2_with (first | refine x_q H ?_ | refine x_cm (fun h => ?_) (fun h => ?_) | (revert H; refine x_g ?_; intro g w1 hg hf H; (try clear hf)) | (revert H; refine x_s ?_; intro w1 hf H; (try clear hf)))
   have hL : LR _ (some ⟨g, 0, none⟩) (a.length + b.length) o := LR.of_blk (pad := []) (by rw [List.append_nil]; exact H.at g) Hlo.out (by rw [Hol.out]; exact Nat.le_refl _) (by unfold maxLen; omega)
   have HL := hid hL
   refine Calls.mono (trim_any o Hol.out HL.out) ?_
   rintro e w1 ⟨rfl, hF⟩
   have HL2 := hid (hL.fr hF).trim
   have H1 := H.step hF (by simp)
   clear H hF hL HL
   have H := H1
   clear H1
   go_wp2_with (first | refine x_q H ?_ | refine x_cm (fun h => ?_) (fun h => ?_) | (revert H; refine x_g ?_; intro g w1 hg hf H; (try clear hf)) | (revert H; refine x_s ?_; intro w1 hf H; (try clear hf)))
   go_ret
   rw [HV.out] at HL2
   exact ⟨_, _, by rw [HV.out]; rfl, H.fr, HL2.out⟩
end Go.Proofs.YtbiohhmpclnpgaaGreatDoor
namespace Go.Proofs.YtbiohhmpclnpgaaGreatDoor
open Go.RowKit
set_option linter.unusedSimpArgs false
set_option linter.unusedVariables false
set_option maxHeartbeats 4000000
set_option maxRecDepth 100000
end Go.Proofs.YtbiohhmpclnpgaaGreatDoor
namespace Go.Proofs.YtbiohhmpclnpgaaGreatDoor
open Go.RowKit
set_option linter.unusedSimpArgs false
set_option linter.unusedVariables false
set_option maxHeartbeats 4000000
set_option maxRecDepth 100000
theorem zv_mul (na nb : Bool) (la lb : List Nat) : zv (!(na == nb)) (digs (val la * val lb)) = zv na la * zv nb lb := by
 rw [zv_digs]; unfold zv; cases na <;> cases nb <;> simp [Int.neg_mul, Int.mul_neg]
theorem mul_any {w : World} {p q : Option Addr} {n m c d : Nat} (na nb : Bool) (la lb : List Nat) (hn : la.length = n) (hm : lb.length = m) (hn0 : n ≤ 400000) (hm0 : m ≤ 400000) (h : LR w p c la) (k : LR w q d lb) :
  Calls Tryz.prog 19 #[.agg #[.bool na, .slice p n c], .agg #[.bool nb, .slice q m d]] w fun e w' => Big e w w' (zv na la * zv nb lb) := by
 subst hn hm
 have Hh := hid h
 have Hk := hid k
 have hla := digs_len_le h.lim
 have hlb := digs_len_le k.lim
 have H := Hp.start [] w
 have HZ := hid (zv_mul na nb la lb)
 have Hb1 := hid (show na = nb → (!(na == nb)) = false from fun h => by subst h; cases na <;> rfl)
 clear h k
 cases na <;> cases nb
 ·go_enter Tryz.func19, Tryz.ntmps19
  go_wp2_with (first | refine x_q H ?_ | refine x_cm (fun h => ?_) (fun h => ?_) | (revert H; refine x_g ?_; intro g w1 hg hf H; (try clear hf)) | (revert H; refine x_s ?_; intro w1 hf H; (try clear hf)))
  (revert H; refine w_p 13 (.st 0 (.st 1 (.st 2 (.st 3 (.st 4 (.st 5 (.st 6 (.st 8 (.st 9 (.ld 7 (.ld 10 (.ld 11 (.ld 12 (.ld 13 .done)))))))))))))) ?_; intro w1 H)
  iterate 9 refine p_q ?_
  ((refine p_c H rfl rfl Tryz.func50 (trim_any la rfl (Hh.out.fr H.fr)) ?_; clear H; rintro e w1 ⟨rfl, hF⟩ H; refine p_r ?_))
  ((refine p_c H rfl rfl Tryz.func50 (trim_any lb rfl (Hk.out.fr H.fr)) ?_; clear H; rintro e w1 ⟨rfl, hF⟩ H; refine p_r ?_))
  ((refine p_c H rfl rfl Tryz.func49 (times_any (digs (val la)) (digs (val lb)) rfl rfl (by omega) (by omega) (Hh.out.trim.fr H.fr) (Hk.out.trim.fr H.fr)) ?_; clear H; rintro e w1 ⟨p5, c5, rfl, hF, hL⟩ H; refine p_r ?_); have HL5 := hid hL; clear hL)
  ((refine p_c H rfl rfl Tryz.func51 (big_any false _ rfl HL5.out) ?_; clear H; rintro e w1 ⟨p6, c6, rfl, hF, hL⟩ H; refine p_r ?_); have HL6 := hid hL; clear hL)
  (revert H; refine p_s2 ?_; intro w1 hf H hk; have hk2 := hid hk; clear hk; (try clear hf))
  (refine pl_done ?_)
  all_goals
   go_wp2_with (first | refine x_q H ?_ | refine x_cm (fun h => ?_) (fun h => ?_) | (revert H; refine x_g ?_; intro g w1 hg hf H; (try clear hf)) | (revert H; refine x_s ?_; intro w1 hf H; (try clear hf)))
   refine c_post H rfl rfl rfl ?_
   have hz : zv false (digs (val (digs (val la)) * val (digs (val lb)))) = zv false la * zv false lb := (by rw [val_digs, val_digs]; exact HZ.out)
   rw [hz] at HL6
   refine ⟨p6, c6, ?_, H.fr, hk2.out _ _ _ HL6.out⟩
   rw [hz]
 ·go_enter Tryz.func19, Tryz.ntmps19
  go_wp2_with (first | refine x_q H ?_ | refine x_cm (fun h => ?_) (fun h => ?_) | (revert H; refine x_g ?_; intro g w1 hg hf H; (try clear hf)) | (revert H; refine x_s ?_; intro w1 hf H; (try clear hf)))
  (revert H; refine w_p 13 (.st 0 (.st 1 (.st 2 (.st 3 (.st 4 (.st 5 (.st 6 (.st 8 (.st 9 (.ld 7 (.ld 10 (.ld 11 (.ld 12 (.ld 13 .done)))))))))))))) ?_; intro w1 H)
  iterate 9 refine p_q ?_
  ((refine p_c H rfl rfl Tryz.func50 (trim_any la rfl (Hh.out.fr H.fr)) ?_; clear H; rintro e w1 ⟨rfl, hF⟩ H; refine p_r ?_))
  ((refine p_c H rfl rfl Tryz.func50 (trim_any lb rfl (Hk.out.fr H.fr)) ?_; clear H; rintro e w1 ⟨rfl, hF⟩ H; refine p_r ?_))
  ((refine p_c H rfl rfl Tryz.func49 (times_any (digs (val la)) (digs (val lb)) rfl rfl (by omega) (by omega) (Hh.out.trim.fr H.fr) (Hk.out.trim.fr H.fr)) ?_; clear H; rintro e w1 ⟨p5, c5, rfl, hF, hL⟩ H; refine p_r ?_); have HL5 := hid hL; clear hL)
  ((refine p_c H rfl rfl Tryz.func51 (big_any true _ rfl HL5.out) ?_; clear H; rintro e w1 ⟨p6, c6, rfl, hF, hL⟩ H; refine p_r ?_); have HL6 := hid hL; clear hL)
  (revert H; refine p_s2 ?_; intro w1 hf H hk; have hk2 := hid hk; clear hk; (try clear hf))
  (refine pl_done ?_)
  all_goals
   go_wp2_with (first | refine x_q H ?_ | refine x_cm (fun h => ?_) (fun h => ?_) | (revert H; refine x_g ?_; intro g w1 hg hf H; (try clear hf)) | (revert H; refine x_s ?_; intro w1 hf H; (try clear hf)))
   refine c_post H rfl rfl rfl ?_
   have hz : zv true (digs (val (digs (val la)) * val (digs (val lb)))) = zv false la * zv true lb := (by rw [val_digs, val_digs]; exact HZ.out)
   rw [hz] at HL6
   refine ⟨p6, c6, ?_, H.fr, hk2.out _ _ _ HL6.out⟩
   rw [hz]
 ·go_enter Tryz.func19, Tryz.ntmps19
  go_wp2_with (first | refine x_q H ?_ | refine x_cm (fun h => ?_) (fun h => ?_) | (revert H; refine x_g ?_; intro g w1 hg hf H; (try clear hf)) | (revert H; refine x_s ?_; intro w1 hf H; (try clear hf)))
  (revert H; refine w_p 13 (.st 0 (.st 1 (.st 2 (.st 3 (.st 4 (.st 5 (.st 6 (.st 8 (.st 9 (.ld 7 (.ld 10 (.ld 11 (.ld 12 (.ld 13 .done)))))))))))))) ?_; intro w1 H)
  iterate 9 refine p_q ?_
  ((refine p_c H rfl rfl Tryz.func50 (trim_any la rfl (Hh.out.fr H.fr)) ?_; clear H; rintro e w1 ⟨rfl, hF⟩ H; refine p_r ?_))
  ((refine p_c H rfl rfl Tryz.func50 (trim_any lb rfl (Hk.out.fr H.fr)) ?_; clear H; rintro e w1 ⟨rfl, hF⟩ H; refine p_r ?_))
  ((refine p_c H rfl rfl Tryz.func49 (times_any (digs (val la)) (digs (val lb)) rfl rfl (by omega) (by omega) (Hh.out.trim.fr H.fr) (Hk.out.trim.fr H.fr)) ?_; clear H; rintro e w1 ⟨p5, c5, rfl, hF, hL⟩ H; refine p_r ?_); have HL5 := hid hL; clear hL)
  ((refine p_c H rfl rfl Tryz.func51 (big_any true _ rfl HL5.out) ?_; clear H; rintro e w1 ⟨p6, c6, rfl, hF, hL⟩ H; refine p_r ?_); have HL6 := hid hL; clear hL)
  (revert H; refine p_s2 ?_; intro w1 hf H hk; have hk2 := hid hk; clear hk; (try clear hf))
  (refine pl_done ?_)
  all_goals
   go_wp2_with (first | refine x_q H ?_ | refine x_cm (fun h => ?_) (fun h => ?_) | (revert H; refine x_g ?_; intro g w1 hg hf H; (try clear hf)) | (revert H; refine x_s ?_; intro w1 hf H; (try clear hf)))
   refine c_post H rfl rfl rfl ?_
   have hz : zv true (digs (val (digs (val la)) * val (digs (val lb)))) = zv true la * zv false lb := (by rw [val_digs, val_digs]; exact HZ.out)
   rw [hz] at HL6
   refine ⟨p6, c6, ?_, H.fr, hk2.out _ _ _ HL6.out⟩
   rw [hz]
 ·go_enter Tryz.func19, Tryz.ntmps19
  go_wp2_with (first | refine x_q H ?_ | refine x_cm (fun h => ?_) (fun h => ?_) | (revert H; refine x_g ?_; intro g w1 hg hf H; (try clear hf)) | (revert H; refine x_s ?_; intro w1 hf H; (try clear hf)))
  (revert H; refine w_p 13 (.st 0 (.st 1 (.st 2 (.st 3 (.st 4 (.st 5 (.st 6 (.st 8 (.st 9 (.ld 7 (.ld 10 (.ld 11 (.ld 12 (.ld 13 .done)))))))))))))) ?_; intro w1 H)
  iterate 9 refine p_q ?_
  ((refine p_c H rfl rfl Tryz.func50 (trim_any la rfl (Hh.out.fr H.fr)) ?_; clear H; rintro e w1 ⟨rfl, hF⟩ H; refine p_r ?_))
  ((refine p_c H rfl rfl Tryz.func50 (trim_any lb rfl (Hk.out.fr H.fr)) ?_; clear H; rintro e w1 ⟨rfl, hF⟩ H; refine p_r ?_))
  ((refine p_c H rfl rfl Tryz.func49 (times_any (digs (val la)) (digs (val lb)) rfl rfl (by omega) (by omega) (Hh.out.trim.fr H.fr) (Hk.out.trim.fr H.fr)) ?_; clear H; rintro e w1 ⟨p5, c5, rfl, hF, hL⟩ H; refine p_r ?_); have HL5 := hid hL; clear hL)
  ((refine p_c H rfl rfl Tryz.func51 (big_any false _ rfl HL5.out) ?_; clear H; rintro e w1 ⟨p6, c6, rfl, hF, hL⟩ H; refine p_r ?_); have HL6 := hid hL; clear hL)
  (revert H; refine p_s2 ?_; intro w1 hf H hk; have hk2 := hid hk; clear hk; (try clear hf))
  (refine pl_done ?_)
  all_goals
   go_wp2_with (first | refine x_q H ?_ | refine x_cm (fun h => ?_) (fun h => ?_) | (revert H; refine x_g ?_; intro g w1 hg hf H; (try clear hf)) | (revert H; refine x_s ?_; intro w1 hf H; (try clear hf)))
   refine c_post H rfl rfl rfl ?_
   have hz : zv false (digs (val (digs (val la)) * val (digs (val lb)))) = zv true la * zv true lb := (by rw [val_digs, val_digs]; exact HZ.out)
   rw [hz] at HL6
   refine ⟨p6, c6, ?_, H.fr, hk2.out _ _ _ HL6.out⟩
   rw [hz]
end Go.Proofs.YtbiohhmpclnpgaaGreatDoor
namespace Go.Proofs.YtbiohhmpclnpgaaGreatDoor
open Go.RowKit
set_option linter.unusedSimpArgs false
set_option linter.unusedVariables false
set_option maxHeartbeats 4000000
set_option maxRecDepth 100000
theorem digs_two {a b : List Nat} (ha : Lim a) (hb : Lim b) {x : Nat} (hx : x ≤ val a + val b) : (digs x).length ≤ a.length + b.length + 1 := by
 apply digs_len_of
 have h1 := val_lt ha
 have h2 := val_lt hb
 have h3 : 4294967296 ^ a.length ≤ 4294967296 ^ (a.length + b.length) := Nat.pow_le_pow_right (by decide) (by omega)
 have h4 : 4294967296 ^ b.length ≤ 4294967296 ^ (a.length + b.length) := Nat.pow_le_pow_right (by decide) (by omega)
 rw [Nat.pow_succ]
 omega
theorem digs_zero_len {a : Nat} (h : (digs a).length ≤ 0) : a = 0 := digs_nil.1 (List.eq_nil_of_length_eq_zero (by omega))
theorem digs_len_pos {a : Nat} (h : a ≠ 0) : 0 < (digs a).length := by
 apply Classical.byContradiction
 intro hn
 exact h (digs_zero_len (by omega))
theorem sign_zero' {n : Bool} {l : List Nat} (h : (digs (val l)).length ≤ 0) : Int.sign (zv n l) = 0 := by
 have := digs_zero_len h
 unfold zv; rw [this]; cases n <;> rfl
theorem sign_pos' {l : List Nat} (h : 0 < (digs (val l)).length) : Int.sign (zv false l) = 1 := by
 have : val l ≠ 0 := fun e => by rw [e, digs_zero] at h; simp at h
 unfold zv; exact Int.sign_eq_one_of_pos (by simp; omega)
theorem sign_neg' {l : List Nat} (h : 0 < (digs (val l)).length) : Int.sign (zv true l) = -1 := by
 have : val l ≠ 0 := fun e => by rw [e, digs_zero] at h; simp at h
 unfold zv; exact Int.sign_eq_neg_one_of_neg (by simp; omega)
theorem sign_any {w : World} {p : Option Addr} {n c : Nat} (neg : Bool) (l : List Nat) (hl : l.length = n) (hn : n ≤ 1000000) (h : LR w p c l) :
  Calls Tryz.prog 92 #[.agg #[.bool neg, .slice p n c]] w fun e w' => e = .returned (.int .i64 (Int.sign (zv neg l))) ∧ Fr [] w w' := by
 have Hh := hid h
 subst hl
 have hle := digs_len_le h.lim
 have H := Hp.start [] w
 clear h
 rcases Nat.lt_or_ge 0 (digs (val l)).length with h0 | h0
 ·cases neg
  ·have Hs := hid (sign_pos' h0)
   go_enter Tryz.func92, Tryz.ntmps92
   go_wp2_with (first | refine x_q H ?_ | refine x_cm (fun h => ?_) (fun h => ?_) | (revert H; refine x_g ?_; intro g w1 hg hf H; (try clear hf)) | (revert H; refine x_s ?_; intro w1 hf H; (try clear hf)))
   (refine x_c H (trim_any l rfl (Hh.out.fr H.fr)) ?_; clear H; rintro e w1 ⟨rfl, hF⟩ H)
   go_wp2_with (first | refine x_q H ?_ | refine x_cm (fun h => ?_) (fun h => ?_) | (revert H; refine x_g ?_; intro g w1 hg hf H; (try clear hf)) | (revert H; refine x_s ?_; intro w1 hf H; (try clear hf)))
   go_ret
   exact ⟨by rw [Hs.out]; rfl, H.fr⟩
  ·have Hs := hid (sign_neg' h0)
   go_enter Tryz.func92, Tryz.ntmps92
   go_wp2_with (first | refine x_q H ?_ | refine x_cm (fun h => ?_) (fun h => ?_) | (revert H; refine x_g ?_; intro g w1 hg hf H; (try clear hf)) | (revert H; refine x_s ?_; intro w1 hf H; (try clear hf)))
   (refine x_c H (trim_any l rfl (Hh.out.fr H.fr)) ?_; clear H; rintro e w1 ⟨rfl, hF⟩ H)
   go_wp2_with (first | refine x_q H ?_ | refine x_cm (fun h => ?_) (fun h => ?_) | (revert H; refine x_g ?_; intro g w1 hg hf H; (try clear hf)) | (revert H; refine x_s ?_; intro w1 hf H; (try clear hf)))
   go_ret
   exact ⟨by rw [Hs.out]; rfl, H.fr⟩
 ·have Hs := hid (sign_zero' (n := neg) h0)
  go_enter Tryz.func92, Tryz.ntmps92
  go_wp2_with (first | refine x_q H ?_ | refine x_cm (fun h => ?_) (fun h => ?_) | (revert H; refine x_g ?_; intro g w1 hg hf H; (try clear hf)) | (revert H; refine x_s ?_; intro w1 hf H; (try clear hf)))
  (refine x_c H (trim_any l rfl (Hh.out.fr H.fr)) ?_; clear H; rintro e w1 ⟨rfl, hF⟩ H)
  go_wp2_with (first | refine x_q H ?_ | refine x_cm (fun h => ?_) (fun h => ?_) | (revert H; refine x_g ?_; intro g w1 hg hf H; (try clear hf)) | (revert H; refine x_s ?_; intro w1 hf H; (try clear hf)))
  go_ret
  exact ⟨by rw [Hs.out]; rfl, H.fr⟩
theorem sign_le (z : Int) : -1 ≤ Int.sign z ∧ Int.sign z ≤ 1 := by
 rcases Int.lt_trichotomy z 0 with h | h | h
 ·rw [Int.sign_eq_neg_one_of_neg h]; decide
 ·rw [h]; decide
 ·rw [Int.sign_eq_one_of_pos h]; decide
theorem cmp_signs {x y : Int} (h : Int.sign x ≠ Int.sign y) : cmpZ x y = cmpZ (Int.sign x) (Int.sign y) := by
 rcases Int.lt_trichotomy x 0 with h1 | h1 | h1 <;> rcases Int.lt_trichotomy y 0 with h2 | h2 | h2 <;> first
  | (exfalso; apply h; first | rw [Int.sign_eq_neg_one_of_neg h1, Int.sign_eq_neg_one_of_neg h2] | rw [h1, h2] | rw [Int.sign_eq_one_of_pos h1, Int.sign_eq_one_of_pos h2]; done)
  | (first | rw [Int.sign_eq_neg_one_of_neg h1] | rw [h1] | rw [Int.sign_eq_one_of_pos h1]
     first | rw [Int.sign_eq_neg_one_of_neg h2] | rw [h2] | rw [Int.sign_eq_one_of_pos h2]
     first | exact cmpZ_lt (by omega) | exact cmpZ_gt (by omega))
theorem cmp_same {na nb : Bool} {la lb : List Nat} (h : Int.sign (zv na la) = Int.sign (zv nb lb)) : Int.sign (zv na la) * cmpZ (val la) (val lb) = cmpZ (zv na la) (zv nb lb) := by
 rcases Int.lt_trichotomy (zv na la) 0 with h1 | h1 | h1
 ·rw [Int.sign_eq_neg_one_of_neg h1] at h ⊢
  have h2 : zv nb lb < 0 := Int.sign_eq_neg_one_iff_neg.1 h.symm
  unfold zv at *
  cases na <;> cases nb <;> simp at * <;> unfold cmpZ <;> (repeat' split) <;> omega
 ·rw [h1] at h ⊢
  have h2 : zv nb lb = 0 := Int.sign_eq_zero_iff_zero.1 h.symm
  rw [h2]
  show 0 * _ = cmpZ 0 0
  rw [cmpZ_eq, Int.zero_mul]
 ·rw [Int.sign_eq_one_of_pos h1] at h ⊢
  have h2 : 0 < zv nb lb := Int.sign_eq_one_iff_pos.1 h.symm
  unfold zv at *
  cases na <;> cases nb <;> simp at * <;> unfold cmpZ <;> (repeat' split) <;> omega
theorem cmpZ_le (x y : Int) : -1 ≤ cmpZ x y ∧ cmpZ x y ≤ 1 := by unfold cmpZ; (repeat' split) <;> omega
theorem cmp_any {w : World} {p q : Option Addr} {n m c d : Nat} (na nb : Bool) (la lb : List Nat) (hn : la.length = n) (hm : lb.length = m) (hn0 : n ≤ 1000000) (hm0 : m ≤ 1000000) (h : LR w p c la) (k : LR w q d lb) :
  Calls Tryz.prog 177 #[.agg #[.bool na, .slice p n c], .agg #[.bool nb, .slice q m d]] w fun e w' => e = .returned (.int .i64 (cmpZ (zv na la) (zv nb lb))) ∧ Fr [] w w' := by
 subst hn hm
 have Hh := hid h
 have Hk := hid k
 have H := Hp.start [] w
 clear h k
 go_enter Tryz.func177, Tryz.ntmps177
 go_upto_region 1 with (first | refine x_q H ?_ | refine x_cm (fun h => ?_) (fun h => ?_) | (revert H; (first | (refine x_g ?_; intro g w1 hg hf H) | (refine x_s ?_; intro w1 hf H)); (try clear hf)))
 go_cut [2, 3, 5, 6] (fun s2 s3 s5 s6 wx => ∃ g1 g2 : Nat, s2 = .pointer (some ⟨g1, 0, none⟩) ∧ s3 = .pointer (some ⟨g2, 0, none⟩) ∧ s5 = .int .i64 (Int.sign (zv na la)) ∧ s6 = .int .i64 (Int.sign (zv nb lb)) ∧ Hp [] w wx [.blk g2 [.bool nb, .slice q lb.length d] 51, .blk g1 [.bool na, .slice p la.length c] 51])
 case first =>
  (revert H; refine w_p 6 (.st 0 (.st 2 (.ld 1 (.ld 3 (.st 4 (.st 5 .done)))))) ?_; intro w1 H)
  iterate 2 refine p_q ?_
  ((refine p_c H rfl rfl Tryz.func92 (sign_any na la rfl hn0 (Hh.out.fr H.fr)) ?_; clear H; rintro e w1 ⟨rfl, hF⟩ H; refine p_r ?_))
  ((refine p_c H rfl rfl Tryz.func92 (sign_any nb lb rfl hm0 (Hk.out.fr H.fr)) ?_; clear H; rintro e w1 ⟨rfl, hF⟩ H; refine p_r ?_))
  iterate 2 refine p_q ?_
  (refine pl_done ?_)
  all_goals
   go_wp2_with (first | refine x_q H ?_ | refine x_cm (fun h => ?_) (fun h => ?_) | (revert H; refine x_g ?_; intro g w1 hg hf H; (try clear hf)) | (revert H; refine x_s ?_; intro w1 hf H; (try clear hf)))
   go_meet
   case rel => exact ⟨_, _, rfl, rfl, rfl, rfl, H⟩
 case rest =>
  clear H
  obtain ⟨g1, g2, rfl, rfl, rfl, rfl, H⟩ := hcut
  have hs1 := sign_le (zv na la)
  have hs2 := sign_le (zv nb lb)
  rcases Int.lt_trichotomy (Int.sign (zv na la)) (Int.sign (zv nb lb)) with hlt | heq | hgt
  ·have Hs : Hid (cmpZ (zv na la) (zv nb lb) = -1) := hid (by rw [cmp_signs (by omega), cmpZ_lt hlt])
   go_wp2_with (first | refine x_q H ?_ | refine x_cm (fun h => ?_) (fun h => ?_) | (revert H; refine x_g ?_; intro g w1 hg hf H; (try clear hf)) | (revert H; refine x_s ?_; intro w1 hf H; (try clear hf)))
   go_ret
   exact ⟨by rw [Hs.out]; rfl, H.fr⟩
  ·have Hs := hid (cmp_same heq)
   have hle1 : Int.sign (zv na la) ≤ Int.sign (zv nb lb) := by omega
   have hle2 : Int.sign (zv nb lb) ≤ Int.sign (zv na la) := by omega
   have hz := cmpZ_le (val la) (val lb)
   have hi : inr IntKind.i64 (Int.sign (zv na la) * cmpZ (val la) (val lb)) := by
    rw [Hs.out]
    have := cmpZ_le (zv na la) (zv nb lb)
    show (-9223372036854775808 : Int) ≤ _ ∧ _ ≤ (9223372036854775807 : Int)
    omega
   clear heq
   go_wp2_with (first | refine x_q H ?_ | refine x_cm (fun h => ?_) (fun h => ?_) | (revert H; refine x_g ?_; intro g w1 hg hf H; (try clear hf)) | (revert H; refine x_s ?_; intro w1 hf H; (try clear hf)))
   (revert H; refine w_p 10 (.st 0 (.st 1 (.st 2 (.st 4 (.st 5 (.ld 3 (.ld 6 (.ld 7 (.st 8 (.st 9 .done)))))))))) ?_; intro w1 H)
   iterate 5 refine p_q ?_
   ((refine p_c H rfl rfl Tryz.func50 (trim_any la rfl (Hh.out.fr H.fr)) ?_; clear H; rintro e w1 ⟨rfl, hF⟩ H; refine p_r ?_))
   ((refine p_c H rfl rfl Tryz.func50 (trim_any lb rfl (Hk.out.fr H.fr)) ?_; clear H; rintro e w1 ⟨rfl, hF⟩ H; refine p_r ?_))
   ((refine p_c H rfl rfl Tryz.func178 (compare_any (val la) (val lb) rfl rfl (Hh.out.trim.fr H.fr) (Hk.out.trim.fr H.fr)) ?_; clear H; rintro e w1 ⟨rfl, hF⟩ H; refine p_r ?_))
   iterate 2 refine p_q ?_
   (refine pl_done ?_)
   all_goals
    go_wp2_with (first | refine x_q H ?_ | refine x_cm (fun h => ?_) (fun h => ?_) | (revert H; refine x_g ?_; intro g w1 hg hf H; (try clear hf)) | (revert H; refine x_s ?_; intro w1 hf H; (try clear hf)))
    go_ret
    exact ⟨by rw [← Hs.out]; rfl, H.fr⟩
  ·have Hs : Hid (cmpZ (zv na la) (zv nb lb) = 1) := hid (by rw [cmp_signs (by omega), cmpZ_gt hgt])
   go_wp2_with (first | refine x_q H ?_ | refine x_cm (fun h => ?_) (fun h => ?_) | (revert H; refine x_g ?_; intro g w1 hg hf H; (try clear hf)) | (revert H; refine x_s ?_; intro w1 hf H; (try clear hf)))
   go_ret
   exact ⟨by rw [Hs.out]; rfl, H.fr⟩
end Go.Proofs.YtbiohhmpclnpgaaGreatDoor
namespace Go.Proofs.YtbiohhmpclnpgaaGreatDoor
open Go.RowKit
set_option linter.unusedSimpArgs false
set_option linter.unusedVariables false
set_option maxHeartbeats 4000000
set_option maxRecDepth 100000
theorem zv_two (neg : Bool) (M : Nat) (hM : M < 18446744073709551616) : zv neg [M % 4294967296, M / 4294967296] = if neg then -(M : Int) else (M : Int) := by
 have : val [M % 4294967296, M / 4294967296] = M := by simp only [val]; omega
 unfold zv; rw [this]
theorem two_lr {w : World} {g : Nat} {M : Nat} {x y : Int} {t : TypeId} (h : w.heap[g]? = some (.cells [[Value.int .u32 x], [Value.int .u32 y]].flatten.toArray t (0, 0))) (hM : M < 18446744073709551616) (hx : x = ((M % 4294967296 : Nat) : Int)) (hy : y = ((M / 4294967296 : Nat) : Int)) : LR w (some ⟨g, 0, none⟩) 2 [M % 4294967296, M / 4294967296] := by
 subst hx hy
 exact LR.of_blk (pad := []) (by simpa [limbs] using h) (Lim.cons (by omega) (Lim.cons (by omega) Lim.nil)) (by simp) (by unfold maxLen; omega)
theorem fromInt_any (w : World) (z : Int) (hz : inr .i64 z) :
  Calls Tryz.prog 54 #[.int .i64 z] w fun e w' => Big e w w' z := by
 have H := Hp.start [] w
 have hz' : -9223372036854775808 ≤ z ∧ z ≤ 9223372036854775807 := hz
 by_cases h0 : z < 0
 ·have HD := hid (decide_eq_true h0)
  go_enter Tryz.func54, Tryz.ntmps54
  go_wp2_with (first | refine x_q H ?_ | refine x_cm (fun h => ?_) (fun h => ?_) | refine x_e (ev_low rfl rfl) ?_ | refine x_e (ev_high rfl rfl) ?_ | (refine is_buildSlice rfl ?_; refine wl_rw rfl (fun K hK => c_sN H rfl (by repeat first | exact .nil _ | apply Parts.tmp (by rfl) (by rfl) | apply Parts.con (by rfl)) rfl (by intro c hc; simp only [List.mem_cons, List.not_mem_nil, or_false] at hc; (try (rcases hc with rfl | rfl | rfl | rfl | rfl | rfl | rfl | rfl <;> rfl))) (by decide) (by decide) (fun g w1 hg hf H1 => hK _ _ ?_)); (clear hK K); (clear H; have H := H1; clear H1; (try dsimp only at H); (try clear hf)); (simp only [nrm, ↓reduceIte, Nat.reduceAdd])) | (revert H; refine x_g ?_; intro g w1 hg hf H; (try clear hf)) | (revert H; refine x_s ?_; intro w1 hf H; (try clear hf)))
  obtain ⟨M, hMz⟩ : ∃ M : Nat, z = -(M : Int) := ⟨(-z).toNat, by omega⟩
  have hM : M < 18446744073709551616 := by omega
  have e : IntKind.u64.wrap (-(z % 18446744073709551616)) = (M : Int) := by rw [IntKind.wrap_u64]; omega
  have HZ : Hid (zv true [M % 4294967296, M / 4294967296] = z) := hid (by rw [zv_two _ _ hM, hMz]; rfl)
  clear hMz
  refine Calls.mono (big_any true [M % 4294967296, M / 4294967296] rfl  (two_lr (H.at g) hM (by rw [e, low_nat hM]) (by rw [e]; omega))) ?_
  rintro e w1 ⟨p3, c3, rfl, hF, hL⟩
  rw [HZ.out] at hL ⊢
  have HB2 := hid hL
  have H1 := H.step hF (by simp)
  clear H hF hL
  have H := H1
  clear H1
  go_wp2_with (first | refine x_q H ?_ | refine x_cm (fun h => ?_) (fun h => ?_) | (revert H; refine x_s2 ?_; intro w1 hf H hk; have hk2 := hid hk; clear hk; (try clear hf)) | (revert H; refine x_g ?_; intro g w1 hg hf H; (try clear hf)) | (revert H; refine x_s ?_; intro w1 hf H; (try clear hf)))
  refine c_post H rfl rfl rfl ?_
  exact ⟨p3, c3, by rw [HD.out], H.fr, hk2.out _ _ _ HB2.out⟩
 ·have HD := hid (decide_eq_false h0)
  go_enter Tryz.func54, Tryz.ntmps54
  go_wp2_with (first | refine x_q H ?_ | refine x_cm (fun h => ?_) (fun h => ?_) | refine x_e (ev_low rfl rfl) ?_ | refine x_e (ev_high rfl rfl) ?_ | (refine is_buildSlice rfl ?_; refine wl_rw rfl (fun K hK => c_sN H rfl (by repeat first | exact .nil _ | apply Parts.tmp (by rfl) (by rfl) | apply Parts.con (by rfl)) rfl (by intro c hc; simp only [List.mem_cons, List.not_mem_nil, or_false] at hc; (try (rcases hc with rfl | rfl | rfl | rfl | rfl | rfl | rfl | rfl <;> rfl))) (by decide) (by decide) (fun g w1 hg hf H1 => hK _ _ ?_)); (clear hK K); (clear H; have H := H1; clear H1; (try dsimp only at H); (try clear hf)); (simp only [nrm, ↓reduceIte, Nat.reduceAdd])) | (revert H; refine x_g ?_; intro g w1 hg hf H; (try clear hf)) | (revert H; refine x_s ?_; intro w1 hf H; (try clear hf)))
  obtain ⟨M, hMz⟩ : ∃ M : Nat, z = (M : Int) := ⟨z.toNat, by omega⟩
  have hM : M < 18446744073709551616 := by omega
  have HZ : Hid (zv false [M % 4294967296, M / 4294967296] = z) := hid (by rw [zv_two _ _ hM, hMz]; rfl)
  have e1 : z % 4294967296 = ((M % 4294967296 : Nat) : Int) := by omega
  have e2 : z / 4294967296 = ((M / 4294967296 : Nat) : Int) := by omega
  clear hMz
  refine Calls.mono (big_any false [M % 4294967296, M / 4294967296] rfl  (two_lr (H.at g) hM e1 e2)) ?_
  rintro e w1 ⟨p3, c3, rfl, hF, hL⟩
  rw [HZ.out] at hL ⊢
  have HB2 := hid hL
  have H1 := H.step hF (by simp)
  clear H hF hL
  have H := H1
  clear H1
  go_wp2_with (first | refine x_q H ?_ | refine x_cm (fun h => ?_) (fun h => ?_) | (revert H; refine x_s2 ?_; intro w1 hf H hk; have hk2 := hid hk; clear hk; (try clear hf)) | (revert H; refine x_g ?_; intro g w1 hg hf H; (try clear hf)) | (revert H; refine x_s ?_; intro w1 hf H; (try clear hf)))
  refine c_post H rfl rfl rfl ?_
  exact ⟨p3, c3, by rw [HD.out], H.fr, hk2.out _ _ _ HB2.out⟩
end Go.Proofs.YtbiohhmpclnpgaaGreatDoor
namespace Go.Proofs.YtbiohhmpclnpgaaGreatDoor
open Go.RowKit
set_option linter.unusedSimpArgs false
set_option linter.unusedVariables false
set_option maxHeartbeats 4000000
set_option maxRecDepth 100000
theorem drop_cons_at {α : Type} {l : List α} {i : Nat} {x : α} (h : l[i]? = some x) : l.drop i = x :: l.drop (i + 1) := by
 obtain ⟨hi, e⟩ := List.getElem?_eq_some_iff.1 h
 rw [List.drop_eq_getElem_cons hi, e]
set_option maxHeartbeats 8000000 in
theorem short_any {w : World} {p : Option Addr} {n c : Nat} (a : List Nat) (dv : Nat) (hn : a.length = n) (hn0 : n ≤ 1000000) (h : LR w p c a) (hd0 : 0 < dv) (hdB : dv < 4294967296) :
  Calls Tryz.prog 180 #[.slice p n c, .int .u32 (dv : Int)] w fun e w' => ∃ p' c', e = .returned (.tuple #[.slice p' (digs (val a / dv)).length c', .int .u32 ((val a % dv : Nat) : Int)]) ∧ Fr [] w w' ∧ LR w' p' c' (digs (val a / dv)) := by
 subst hn
 have Hh := hid h
 clear h
 have H := Hp.start [] w
 go_enter Tryz.func180, Tryz.ntmps180
 go_wp2_with (first | refine x_q H ?_ | refine x_cm (fun h => ?_) (fun h => ?_) | (revert H; refine x_g ?_; intro g w1 hg hf H; (try clear hf)) | (revert H; refine x_s ?_; intro w1 hf H; (try clear hf)))
 rw [show ((a.length : Int)).toNat = a.length by omega, zeros_limbs] at H
 go_loopw [7, 8] (fun s7 s8 wr => ∃ (i r : Nat) (o : List Nat), i ≤ a.length ∧ s7 = .int .u64 r ∧ s8 = .int .i64 ((i : Int) - 1) ∧ r < dv ∧ Hid (o.length = a.length) ∧ Hid (Lim o) ∧ Hid (val (a.drop i) = dv * val (o.drop i) + r) ∧ Hp [] w wr [.blk g (limbs o) 104]) (fun _ v _ => (intOf v + 1).toNat)
 case atStart => exact ⟨a.length, 0, List.replicate a.length 0, Nat.le_refl _, rfl, rfl, hd0, hid List.length_replicate, hid (Lim.zeros _), hid (by rw [List.drop_eq_nil_of_le (Nat.le_refl _), List.drop_eq_nil_of_le (by rw [List.length_replicate]; exact Nat.le_refl _)]; simp [val]), H⟩
 case round =>
  clear H
  obtain ⟨i, r, o, hi, rfl, rfl, hr, Hol, Hlo, Hv, H⟩ := hrel
  by_cases h0 : i = 0
  ·have HV : Hid (val a = dv * val o + r) := hid (by
    have := Hv.out
    rwa [h0, List.drop_zero, List.drop_zero] at this)
   have h0' : (i : Int) - 1 < 0 := by omega
   clear h0
   go_wp2_with (first | refine x_q H ?_ | refine x_cm (fun h => ?_) (fun h => ?_) | (revert H; refine x_g ?_; intro g w1 hg hf H; (try clear hf)) | (revert H; refine x_s ?_; intro w1 hf H; (try clear hf)))
   have hL : LR _ (some ⟨g, 0, none⟩) a.length o := LR.of_blk (pad := []) (by rw [List.append_nil]; exact H.at g) Hlo.out (by rw [Hol.out]; exact Nat.le_refl _) (by unfold maxLen; omega)
   have HL := hid hL
   have HQ : Hid (val o = val a / dv) := hid (by rw [HV.out, Nat.mul_add_div hd0, Nat.div_eq_of_lt hr, Nat.add_zero])
   have HR : Hid (val a % dv = r) := hid (by rw [HV.out, Nat.mul_add_mod, Nat.mod_eq_of_lt hr])
   refine Calls.mono (trim_any o Hol.out HL.out) ?_
   rintro e w1 ⟨rfl, hF⟩
   have HL2 := hid (hL.fr hF).trim
   have H1 := H.step hF (by simp)
   clear H hF hL HL
   have H := H1
   clear H1
   go_wp2_with (first | refine x_q H ?_ | refine x_cm (fun h => ?_) (fun h => ?_) | (revert H; refine x_g ?_; intro g w1 hg hf H; (try clear hf)) | (revert H; refine x_s ?_; intro w1 hf H; (try clear hf)))
   refine bodyPost_ret (results_tmp2 rfl _ _ _) rfl ?_
   rw [HQ.out] at HL2
   exact ⟨_, _, by rw [HQ.out, HR.out]; rfl, H.fr, HL2.out⟩
  ·obtain ⟨j, rfl⟩ : ∃ j, i = j + 1 := ⟨i - 1, by omega⟩
   obtain ⟨x, hx⟩ : ∃ x, a[j]? = some x := ⟨_, List.getElem?_eq_getElem (by omega)⟩
   have hxv := limbs_at hx
   have hxB := Hh.out.lim.at hx
   have Hx := hid hx
   clear hx h0
   obtain ⟨b0, off, rfl, hb0, hcell⟩ := Hh.out.rd.rng (limbs_ne (i := j) (by omega))
   have H1 := H.pushRng (b := b0) (off := off) hb0 (by simp) hcell
   clear H hcell
   have H := H1
   clear H1
   have e1 : (((j + 1 : Nat) : Int) - 1) = (j : Int) := by omega
   rw [e1]
   clear e1
   have hjo : j < o.length := by rw [Hol.out]; omega
   obtain ⟨ov, hov⟩ : ∃ ov, o[j]? = some ov := ⟨_, List.getElem?_eq_getElem hjo⟩
   have hovv := limbs_at hov
   have hlim := short_limb hr hxB
   have Hlim := hid hlim
   clear hov hlim
   go_wp2_with (first | refine x_q H ?_ | refine x_cm (fun h => ?_) (fun h => ?_) | refine x_e (ev_over rfl rfl) ?_ | refine x_e (ev_orJ rfl rfl rfl) ?_ | (revert H; refine x_g ?_; intro g w1 hg hf H; (try clear hf)) | (revert H; refine x_s ?_; intro w1 hf H; (try clear hf)))
   have e1 : ((r : Int) * 4294967296 + (x : Int)) / (dv : Int) % 4294967296 = (((r * 4294967296 + x) / dv : Nat) : Int) := by
    have e2 : ((r : Int) * 4294967296 + (x : Int)) / (dv : Int) = (((r * 4294967296 + x) / dv : Nat) : Int) := by rw [Int.natCast_ediv]; congr 1
    rw [e2]
    have h := Hlim.out
    generalize (r * 4294967296 + x) / dv = q at h ⊢
    omega
   have e3 : ((r : Int) * 4294967296 + (x : Int)) % (dv : Int) = (((r * 4294967296 + x) % dv : Nat) : Int) := by rw [Int.natCast_emod]; congr 1
   rw [e1, limbs_set] at H
   rw [e3]
   go_roundw
   case rel => exact ⟨j, (r * 4294967296 + x) % dv, o.set j ((r * 4294967296 + x) / dv), by omega, rfl, rfl, Nat.mod_lt _ hd0, hid (by rw [List.length_set]; exact Hol.out), hid (Hlo.out.set _ Hlim.out), hid (by rw [drop_set _ _ _ hjo, drop_cons_at Hx.out]; simp only [val]; exact short_round Hv.out), H.sub (by repeat first | exact List.Sublist.refl _ | exact List.nil_sublist _ | apply List.Sublist.cons_cons | apply List.Sublist.cons)⟩
   case measure => (simp [intOf]; try omega)
end Go.Proofs.YtbiohhmpclnpgaaGreatDoor
