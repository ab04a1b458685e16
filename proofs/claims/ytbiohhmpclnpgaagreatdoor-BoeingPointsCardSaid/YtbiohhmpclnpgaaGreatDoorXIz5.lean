import Derived.Test.YtbiohhmpclnpgaaGreatDoorXPz2
import Derived.Test.YtbiohhmpclnpgaaGreatDoorXIw32
import Derived.Test.YtbiohhmpclnpgaaGreatDoorXEa1
namespace Go.Proofs
open Go.Shelf
set_option linter.unusedSimpArgs false
set_option linter.unusedVariables false
def Tryz.lays28_ren : Go.Shelf.Ren := ⟨fun | 28 => 167 | n => n, fun | 0 => 0 | 3 => 3 | 4 => 4 | 5 => 5 | 25 => 43 | 27 => 104 | 53 => 233 | n => n, fun | 0 => 5 | n => n⟩
theorem Tryz.lays28 : Go.Proofs.Lays7.n28 Tryz.prog Tryz.lays28_ren := {
 mixed := by kernel_rfl
 f28 := Tryz.func167.trans (congrArg some (by kernel_rfl))
 t0 := Tryz.underlying0
 a0 := Tryz.isAgg0
 z0 := Tryz.sizeOf0
 v0 := Tryz.zeroValue0
 i0 := by kernel_rfl
 t3 := Tryz.underlying3
 a3 := Tryz.isAgg3
 z3 := Tryz.sizeOf3
 v3 := Tryz.zeroValue3
 i3 := by kernel_rfl
 t4 := Tryz.underlying4
 a4 := Tryz.isAgg4
 z4 := Tryz.sizeOf4
 v4 := Tryz.zeroValue4
 i4 := by kernel_rfl
 t5 := Tryz.underlying5
 a5 := Tryz.isAgg5
 z5 := Tryz.sizeOf5
 v5 := Tryz.zeroValue5
 i5 := by kernel_rfl
 t25 := Tryz.underlying43
 a25 := Tryz.isAgg43
 z25 := Tryz.sizeOf43
 v25 := Tryz.zeroValue43
 i25 := by kernel_rfl
 t27 := Tryz.underlying104
 a27 := Tryz.isAgg104
 z27 := Tryz.sizeOf104
 v27 := Tryz.zeroValue104
 i27 := by kernel_rfl
 t53 := Tryz.underlying233
 a53 := Tryz.isAgg233
 z53 := Tryz.sizeOf233
 v53 := Tryz.zeroValue233
 i53 := by kernel_rfl
 g0 := by kernel_rfl }
end Go.Proofs
namespace Go.Proofs.YtbiohhmpclnpgaaGreatDoor
open Go.RowKit
set_option linter.unusedSimpArgs false
set_option linter.unusedVariables false
set_option maxHeartbeats 4000000
set_option maxRecDepth 100000
theorem ctz_tz : ∀ (f x : Nat), 0 < x → x < 2 ^ f → Lib.ctzFrom f x = tz x
 | 0, x, h0, h => by simp at h; omega
 | f + 1, x, h0, h => by
  rw [Lib.ctzFrom]
  by_cases h1 : x % 2 = 1
  ·rw [if_pos h1, tz_odd h1]
  ·rw [Nat.pow_succ] at h
   have e : x = 2 * (x / 2) := by omega
   rw [if_neg h1, ctz_tz f (x / 2) (by omega) (by omega)]
   conv => rhs; rw [e, tz_even (by omega)]
   omega
theorem tz32_any (w : World) (x : Nat) (h0 : x ≠ 0) (hx : x < 4294967296) (hT : TabAt 5 Lib.deBruijn32tab w) :
  Calls Tryz.prog 167 #[.int .u32 (x : Int)] w fun e w' => e = .returned (.int .i64 (tz x : Int)) ∧ Fr [] w w' := by
 refine Calls.mono (Any7.bits_TrailingZeros32 Tryz.lays28 x hx w (fun _ => hT)) ?_
 rintro e w' ⟨rfl, rfl⟩
 refine ⟨?_, Fr.refl _ _⟩
 rw [Lib.ctz, if_neg h0, ctz_tz 32 x (by omega) (by omega)]
theorem TabAt.fr {g : Nat} {tab : List Nat} {w w' : World} (h : TabAt g tab w) (k : Fr [] w w') : TabAt g tab w' := fun j hj => k.cell (h j hj) (by simp)
set_option maxHeartbeats 8000000 in
theorem bitLen_any {w : World} {p : Option Addr} {n c : Nat} (neg : Bool) (l : List Nat) (hl : l.length = n) (hn : n ≤ 1000000) (h : LR w p c l) :
  Calls Tryz.prog 98 #[.agg #[.bool neg, .slice p n c]] w fun e w' => e = .returned (.int .i64 (bl (val l) : Int)) ∧ Fr [] w w' := by
 subst hl
 have Hh := hid h
 have hA := hid (h.trim)
 have hlen := digs_len_le h.lim
 have H := Hp.start [] w
 clear h
 go_enter Tryz.func98, Tryz.ntmps98
 go_wp2_with (first | refine x_q H ?_ | refine x_cm (fun h => ?_) (fun h => ?_) | (revert H; refine x_g ?_; intro g w1 hg hf H; (try (have hfk := hid hf; clear hf))) | (revert H; refine x_s ?_; intro w1 hf H; (try (have hfk := hid hf; clear hf))))
 (refine x_c H (trim_any l rfl (Hh.out.fr H.fr)) ?_; clear H; rintro e w1 ⟨rfl, hF⟩ H)
 go_wp2_with (first | refine x_q H ?_ | refine x_cm (fun h => ?_) (fun h => ?_) | (revert H; refine x_g ?_; intro g w1 hg hf H; (try (have hfk := hid hf; clear hf))) | (revert H; refine x_s ?_; intro w1 hf H; (try (have hfk := hid hf; clear hf))))
 (refine x_c H (length_any (val l) rfl (by omega) (hA.out.fr H.fr)) ?_; clear H; rintro e w1 ⟨rfl, hF⟩ H)
 go_wp2_with (first | refine x_q H ?_ | refine x_cm (fun h => ?_) (fun h => ?_) | (revert H; refine x_g ?_; intro g w1 hg hf H; (try (have hfk := hid hf; clear hf))) | (revert H; refine x_s ?_; intro w1 hf H; (try (have hfk := hid hf; clear hf))))
 go_ret
 exact ⟨rfl, H.fr⟩
set_option maxHeartbeats 8000000 in
theorem trailing_any {w : World} {p : Option Addr} {n c : Nat} (neg : Bool) (l : List Nat) (hl : l.length = n) (hn : n ≤ 1000000) (h : LR w p c l) (hT : TabAt 5 Lib.deBruijn32tab w) :
  Calls Tryz.prog 137 #[.agg #[.bool neg, .slice p n c]] w fun e w' => e = .returned (.int .i64 (tz (val l) : Int)) ∧ Fr [] w w' := by
 subst hl
 have Hh := hid h
 have HT := hid hT
 have H := Hp.start [] w
 clear h hT
 go_enter Tryz.func137, Tryz.ntmps137
 go_wp2_with (first | refine x_q H ?_ | refine x_cm (fun h => ?_) (fun h => ?_) | (revert H; refine x_g ?_; intro g w1 hg hf H; (try (have hfk := hid hf; clear hf))) | (revert H; refine x_s ?_; intro w1 hf H; (try (have hfk := hid hf; clear hf))))
 go_loopw [8] (fun s8 wr => ∃ i : Nat, i ≤ l.length ∧ s8 = .int .i64 (i : Int) ∧ Hid (∀ j, j < i → l[j]? = some 0) ∧ Hp [] w wr [.blk g [.bool neg, .slice p l.length c] 51]) (fun v _ => l.length - (intOf v).toNat)
 case atStart => exact ⟨0, Nat.zero_le _, rfl, hid (fun j hj => absurd hj (Nat.not_lt_zero _)), H⟩
 case round =>
  clear H
  obtain ⟨i, hi, rfl, Hz, H⟩ := hrel
  by_cases hin : i < l.length
  ·obtain ⟨x, hx⟩ : ∃ x, l[i]? = some x := ⟨_, List.getElem?_eq_getElem hin⟩
   have hxv := limbs_at hx
   have hxB := Hh.out.lim.at hx
   have Hx := hid hx
   obtain ⟨b0, off, rfl, hb0, hcell⟩ := Hh.out.rd.rng (limbs_ne (i := i) hin)
   have H1 := H.pushRng (b := b0) (off := off) hb0 (by simp) hcell
   clear H hcell
   have H := H1
   clear H1
   clear hx
   by_cases h0 : x = 0
   ·have Hx0 := hid h0
    have hx0 : (x : Int) = 0 := by omega
    clear h0
    rw [hx0] at hxv
    clear hx0
    go_wp2_with (first | refine x_q H ?_ | refine x_cm (fun h => ?_) (fun h => ?_) | (revert H; refine x_g ?_; intro g w1 hg hf H; (try (have hfk := hid hf; clear hf))) | (revert H; refine x_s ?_; intro w1 hf H; (try (have hfk := hid hf; clear hf))))
    go_roundw
    case rel => exact ⟨i + 1, by omega, by go_num, hid (upto_step Hz.out (by have := Hx.out; rw [Hx0.out] at this; exact this)), H.sub (by repeat first | exact List.Sublist.refl _ | exact List.nil_sublist _ | apply List.Sublist.cons_cons | apply List.Sublist.cons)⟩
    case measure => (simp [intOf]; try omega)
   ·have hx0 : 0 < x := Nat.pos_of_ne_zero h0
    have Hx0 := hid h0
    have HR : Hid (tz (val l) = 32 * i + tz x) := hid (tz_digs Hx.out h0 Hh.out.lim Hz.out)
    clear h0
    go_wp2_with (first | refine x_q H ?_ | refine x_cm (fun h => ?_) (fun h => ?_) | (revert H; refine x_g ?_; intro g w1 hg hf H; (try (have hfk := hid hf; clear hf))) | (revert H; refine x_s ?_; intro w1 hf H; (try (have hfk := hid hf; clear hf))))
    (refine x_c H (tz32_any _ x Hx0.out hxB (TabAt.fr HT.out H.fr)) ?_; clear H; rintro e w1 ⟨rfl, hF⟩ H)
    have ht : tz x ≤ 64 := by
     have h1 := ctz_tz 32 x hx0 (by omega)
     obtain ⟨_, _, h2⟩ := Lib.ctzFrom_spec 32 x hx0 (by omega)
     omega
    go_wp2_with (first | refine x_q H ?_ | refine x_cm (fun h => ?_) (fun h => ?_) | (revert H; refine x_g ?_; intro g w1 hg hf H; (try (have hfk := hid hf; clear hf))) | (revert H; refine x_s ?_; intro w1 hf H; (try (have hfk := hid hf; clear hf))))
    go_ret
    refine ⟨?_, H.fr⟩
    rw [HR.out, show ((32 * i + tz x : Nat) : Int) = (i : Int) * 32 + (tz x : Int) by omega]
    rfl
  ·have e : val l = 0 := by
    apply zeros_tail
    intro k x hk
    have h1 := (List.getElem?_eq_some_iff.1 hk).1
    have h2 := Hz.out k (by omega)
    rw [hk] at h2
    exact Option.some.inj h2
   have He := hid e
   clear e
   go_wp2_with (first | refine x_q H ?_ | refine x_cm (fun h => ?_) (fun h => ?_) | (revert H; refine x_g ?_; intro g w1 hg hf H; (try (have hfk := hid hf; clear hf))) | (revert H; refine x_s ?_; intro w1 hf H; (try (have hfk := hid hf; clear hf))))
   go_ret
   exact ⟨by rw [He.out, tz_zero]; rfl, H.fr⟩
end Go.Proofs.YtbiohhmpclnpgaaGreatDoor
namespace Go.Proofs.YtbiohhmpclnpgaaGreatDoor
open Go.RowKit
set_option linter.unusedSimpArgs false
set_option linter.unusedVariables false
set_option maxHeartbeats 4000000
set_option maxRecDepth 100000
theorem sg_pow (neg : Bool) (A k : Nat) : sg neg (A * 2 ^ k) = sg neg A * 2 ^ k := by
 have e : ((2 ^ k : Nat) : Int) = (2 : Int) ^ k := by rw [Int.natCast_pow]; rfl
 unfold sg
 cases neg
 ·simp [Int.natCast_mul, e]
 ·simp [Int.natCast_mul, e, Int.neg_mul]
theorem pow_cast (k : Nat) : sg false (2 ^ k) = (2 : Int) ^ k := by
 show (((2 ^ k : Nat) : Int)) = _
 rw [Int.natCast_pow]; rfl
set_option maxHeartbeats 8000000 in
theorem shift_up {w : World} {p : Option Addr} {n c : Nat} (k : Nat) (neg : Bool) (l : List Nat) (hl : l.length = n) (hn : n ≤ 400000) (hk : k ≤ 1048576) (h : LR w p c l) :
  Calls Tryz.prog 144 #[.agg #[.bool neg, .slice p n c], .int .i64 (k : Int)] w fun e w' => ∃ v1, e = .returned (.tuple #[v1, .int .i64 0]) ∧ Fr [] w w' ∧ BigV w' v1 (zv neg l * 2 ^ k) := by
 subst hl
 have Hh := hid h
 have hA := hid (h.trim)
 have hlen := digs_len_le h.lim
 have H := Hp.start [] w
 clear h
 go_enter Tryz.func144, Tryz.ntmps144
 go_wp2_with (first | refine x_q H ?_ | refine x_cm (fun h => ?_) (fun h => ?_) | (revert H; refine x_g ?_; intro g w1 hg hf H; (try (have hfk := hid hf; clear hf))) | (revert H; refine x_s ?_; intro w1 hf H; (try (have hfk := hid hf; clear hf))))
 (refine x_c H (trim_any l rfl (Hh.out.fr H.fr)) ?_; clear H; rintro e w1 ⟨rfl, hF⟩ H)
 go_wp2_with (first | refine x_q H ?_ | refine x_cm (fun h => ?_) (fun h => ?_) | (revert H; refine x_g ?_; intro g w1 hg hf H; (try (have hfk := hid hf; clear hf))) | (revert H; refine x_s ?_; intro w1 hf H; (try (have hfk := hid hf; clear hf))))
 (revert H; refine w_p 6 (.st 0 (.st 1 (.st 2 (.st 3 (.ld 4 (.ld 5 (.ldf 6 (.st 7 .done)))))))) ?_; intro w1 H)
 iterate 4 refine p_q ?_
 ((refine p_c H rfl rfl Tryz.func182 (up_any (digs (val l)) k rfl (by omega) (by omega) (hA.out.fr H.fr)) ?_; clear H; rintro e w1 ⟨p5, c5, rfl, hF, hL⟩ H; refine p_r ?_); have HL5 := hid hL; clear hL)
 ((refine p_c H rfl rfl Tryz.func51 (big_any neg (digs (val (digs (val l)) * 2 ^ k)) rfl HL5.out) ?_; clear H; rintro e w1 ⟨p6, c6, rfl, hF, hL⟩ H; refine p_r ?_); have HL6 := hid hL; clear hL)
 (refine pl_rwf rfl rfl (fun K hK => c_st2 H rfl rfl rfl (h := fun w1 hf H1 hk => hK _ _ ?_)); have hk2 := hid hk; clear hk; (clear hK K); (clear H; have H := H1; clear H1; (try dsimp only at H); (try (have hfk := hid hf; clear hf))); (simp only [nrm, ↓reduceIte, Nat.reduceAdd]))
 refine p_q ?_
 (refine pl_done ?_)
 all_goals
  go_wp2_with (first | refine x_q H ?_ | refine x_cm (fun h => ?_) (fun h => ?_) | (revert H; refine x_g ?_; intro g w1 hg hf H; (try (have hfk := hid hf; clear hf))) | (revert H; refine x_s ?_; intro w1 hf H; (try (have hfk := hid hf; clear hf))))
  refine c_postCT H rfl rfl rfl rfl ?_
  have e : zv neg (digs (val (digs (val l)) * 2 ^ k)) = zv neg l * 2 ^ k := by rw [zv_sg, val_digs, val_digs, sg_pow]; rfl
  rw [e] at HL6
  exact ⟨_, rfl, H.fr, p6, c6, by rw [e], hk2.out _ _ _ HL6.out⟩
set_option maxHeartbeats 8000000 in
theorem shift_down {w : World} {p : Option Addr} {n c : Nat} (k : Nat) (neg : Bool) (l : List Nat) (hl : l.length = n) (hn : n ≤ 400000) (hk0 : 0 < k) (hk : k ≤ 1048576) (h : LR w p c l) :
  Calls Tryz.prog 144 #[.agg #[.bool neg, .slice p n c], .int .i64 (-(k : Int))] w fun e w' => ∃ v1, e = .returned (.tuple #[v1, .int .i64 0]) ∧ Fr [] w w' ∧ BigV w' v1 (zv neg l / 2 ^ k) := by
 subst hl
 have Hh := hid h
 have hA := hid (h.trim)
 have hlen := digs_len_le h.lim
 have H := Hp.start [] w
 clear h
 have h2 : (2 : Nat) ^ k ≠ 0 := Nat.pos_iff_ne_zero.1 (Nat.two_pow_pos k)
 have h2 := hid h2
 go_enter Tryz.func144, Tryz.ntmps144
 go_wp2_with (first | refine x_q H ?_ | refine x_cm (fun h => ?_) (fun h => ?_) | (revert H; refine x_g ?_; intro g w1 hg hf H; (try (have hfk := hid hf; clear hf))) | (revert H; refine x_s ?_; intro w1 hf H; (try (have hfk := hid hf; clear hf))))
 (refine x_c H (trim_any l rfl (Hh.out.fr H.fr)) ?_; clear H; rintro e w1 ⟨rfl, hF⟩ H)
 go_wp2_with (first | refine x_q H ?_ | refine x_cm (fun h => ?_) (fun h => ?_) | (revert H; refine x_g ?_; intro g w1 hg hf H; (try (have hfk := hid hf; clear hf))) | (revert H; refine x_s ?_; intro w1 hf H; (try (have hfk := hid hf; clear hf))))
 (refine x_c H (down_any (val l) k rfl (by omega) (by omega) (hA.out.fr H.fr)) ?_; clear H; rintro e w1 ⟨p5, c5, rfl, hF, hL⟩ H; have HL5 := hid hL; clear hL)
 have hql := digs_mono (Nat.div_le_self (val l) (2 ^ k))
 cases neg
 ·generalize decide (val l % 2 ^ k ≠ 0) = lost
  go_wp2_with (first | refine x_q H ?_ | refine x_cm (fun h => ?_) (fun h => ?_) | (revert H; refine x_g ?_; intro g w1 hg hf H; (try (have hfk := hid hf; clear hf))) | (revert H; refine x_s ?_; intro w1 hf H; (try (have hfk := hid hf; clear hf))))
  (refine x_c H (big_any false (digs (val l / 2 ^ k)) rfl HL5.out) ?_; clear H; rintro e w1 ⟨p6, c6, rfl, hF, hL⟩ H; have HL6 := hid hL; clear hL)
  go_wp2_with (first | refine x_q H ?_ | refine x_cm (fun h => ?_) (fun h => ?_) | (revert H; refine x_s2 ?_; intro w1 hf H hk; have hk2 := hid hk; clear hk; (try (have hfk := hid hf; clear hf))) | (revert H; refine x_g ?_; intro g w1 hg hf H; (try (have hfk := hid hf; clear hf))) | (revert H; refine x_s ?_; intro w1 hf H; (try (have hfk := hid hf; clear hf))))
  refine c_postCT H rfl rfl rfl rfl ?_
  have e : zv false (digs (val l / 2 ^ k)) = zv false l / 2 ^ k := (by rw [zv_sg, zv_sg, val_digs, ← pow_cast]; exact (dm_plain (na := false) (nb := false) (A := val l) h2.out (.inl rfl)).1.symm)
  rw [e] at HL6
  exact ⟨_, rfl, H.fr, p6, c6, by rw [e], hk2.out _ _ _ HL6.out⟩
 ·by_cases hr : val l % 2 ^ k = 0
  ·have Hr := hid hr
   rw [show decide (val l % 2 ^ k ≠ 0) = false by simp [hr]]
   clear hr
   go_wp2_with (first | refine x_q H ?_ | refine x_cm (fun h => ?_) (fun h => ?_) | (revert H; refine x_g ?_; intro g w1 hg hf H; (try (have hfk := hid hf; clear hf))) | (revert H; refine x_s ?_; intro w1 hf H; (try (have hfk := hid hf; clear hf))))
   (refine x_c H (big_any true (digs (val l / 2 ^ k)) rfl HL5.out) ?_; clear H; rintro e w1 ⟨p6, c6, rfl, hF, hL⟩ H; have HL6 := hid hL; clear hL)
   go_wp2_with (first | refine x_q H ?_ | refine x_cm (fun h => ?_) (fun h => ?_) | (revert H; refine x_s2 ?_; intro w1 hf H hk; have hk2 := hid hk; clear hk; (try (have hfk := hid hf; clear hf))) | (revert H; refine x_g ?_; intro g w1 hg hf H; (try (have hfk := hid hf; clear hf))) | (revert H; refine x_s ?_; intro w1 hf H; (try (have hfk := hid hf; clear hf))))
   refine c_postCT H rfl rfl rfl rfl ?_
   have e : zv true (digs (val l / 2 ^ k)) = zv true l / 2 ^ k := (by rw [zv_sg, zv_sg, val_digs, ← pow_cast]; exact (dm_plain (na := true) (nb := false) (A := val l) h2.out (.inr Hr.out)).1.symm)
   rw [e] at HL6
   exact ⟨_, rfl, H.fr, p6, c6, by rw [e], hk2.out _ _ _ HL6.out⟩
  ·have Hr := hid hr
   rw [show decide (val l % 2 ^ k ≠ 0) = true by simp [hr]]
   clear hr
   go_wp2_with (first | refine x_q H ?_ | refine x_cm (fun h => ?_) (fun h => ?_) | (refine is_buildSlice rfl ?_; refine wl_rw rfl (fun K hK => c_sN H rfl (by repeat first | exact .nil _ | apply Parts.tmp (by rfl) (by rfl) | apply Parts.con (by rfl)) rfl (by intro c hc; simp only [List.mem_cons, List.not_mem_nil, or_false] at hc; (try (rcases hc with rfl | rfl | rfl | rfl | rfl | rfl | rfl | rfl <;> rfl))) (by decide) (by decide) (fun g w1 hg hf H1 => hK _ _ ?_)); (clear hK K); (clear H; have H := H1; clear H1; (try dsimp only at H); (try (have hfk := hid hf; clear hf))); (simp only [nrm, ↓reduceIte, Nat.reduceAdd])) | (revert H; refine x_g ?_; intro g w1 hg hf H; (try (have hfk := hid hf; clear hf))) | (revert H; refine x_s ?_; intro w1 hf H; (try (have hfk := hid hf; clear hf))))
   have HO := hid (LR.of_blk (l := [1]) (c := 1) (pad := []) (by have := H.at g; simpa [limbs] using this) (Lim.cons (by decide) Lim.nil) (by simp) (by unfold maxLen; omega))
   (refine x_c H (plus_any (digs (val l / 2 ^ k)) [1] rfl rfl (by omega) (by simp) (HL5.out.fr hfk.out) HO.out) ?_; clear H; rintro e w1 ⟨p3, c3, rfl, hF, hL⟩ H; have HL3 := hid hL; clear hL)
   rw [val_digs, val_one] at HL3 ⊢
   go_wp2_with (first | refine x_q H ?_ | refine x_cm (fun h => ?_) (fun h => ?_) | (revert H; refine x_g ?_; intro g w1 hg hf H; (try (have hfk := hid hf; clear hf))) | (revert H; refine x_s ?_; intro w1 hf H; (try (have hfk := hid hf; clear hf))))
   (refine x_c H (big_any true (digs (val l / 2 ^ k + 1)) rfl HL3.out) ?_; clear H; rintro e w1 ⟨p6, c6, rfl, hF, hL⟩ H; have HL6 := hid hL; clear hL)
   go_wp2_with (first | refine x_q H ?_ | refine x_cm (fun h => ?_) (fun h => ?_) | (revert H; refine x_s2 ?_; intro w1 hf H hk; have hk2 := hid hk; clear hk; (try (have hfk := hid hf; clear hf))) | (revert H; refine x_g ?_; intro g w1 hg hf H; (try (have hfk := hid hf; clear hf))) | (revert H; refine x_s ?_; intro w1 hf H; (try (have hfk := hid hf; clear hf))))
   refine c_postCT H rfl rfl rfl rfl ?_
   have e : zv true (digs (val l / 2 ^ k + 1)) = zv true l / 2 ^ k := (by rw [zv_sg, zv_sg, val_digs, ← pow_cast]; exact (dm_down (nb := false) (A := val l) h2.out Hr.out).1.symm)
   rw [e] at HL6
   exact ⟨_, rfl, H.fr, p6, c6, by rw [e], hk2.out _ _ _ HL6.out⟩
end Go.Proofs.YtbiohhmpclnpgaaGreatDoor
namespace Go.Proofs.YtbiohhmpclnpgaaGreatDoor
open Go.RowKit
set_option linter.unusedSimpArgs false
set_option linter.unusedVariables false
set_option maxHeartbeats 4000000
set_option maxRecDepth 100000
theorem dl_shift {x : Int} {n : Nat} (k : Nat) (hx : dl x ≤ n) : dl (x * 2 ^ k) ≤ n + k := by
 apply dl_le
 have e : ((2 : Int) ^ k).natAbs = 2 ^ k := by rw [Int.natAbs_pow]; rfl
 rw [Int.natAbs_mul, e, Nat.pow_add]
 have h1 : x.natAbs < 4294967296 ^ n := Nat.lt_of_lt_of_le dl_lt (Nat.pow_le_pow_right (by decide) hx)
 have h2 : 2 ^ k ≤ 4294967296 ^ k := Nat.pow_le_pow_left (by decide) k
 exact Nat.lt_of_lt_of_le (Nat.mul_lt_mul_of_pos_right h1 (Nat.two_pow_pos k)) (Nat.mul_le_mul_left _ h2)
theorem shiftUp_ar {w : World} {u : Value} {x : Int} {n : Nat} (k : Nat) (h : Av w u x n) (hn : n ≤ 200000) (hk : k ≤ 1048576) :
  Calls Tryz.prog 144 #[u, .int .i64 (k : Int)] w fun e w' => ∃ v1, e = .returned (.tuple #[v1, .int .i64 0]) ∧ Fr [] w w' ∧ Bv w' v1 (x * 2 ^ k) (n + k) := by
 have hd := h.dl
 obtain ⟨na, la, p, c, rfl, h1, rfl, h3⟩ := h
 refine Calls.mono (shift_up k na la rfl (by omega) hk h1) ?_
 rintro e w' ⟨v1, rfl, hF, b1⟩
 exact ⟨v1, rfl, hF, b1, dl_shift k hd⟩
theorem shiftDown_ar {w : World} {u : Value} {x : Int} {n : Nat} (k : Nat) (h : Av w u x n) (hn : n ≤ 200000) (hk : k ≤ 1048576) :
  Calls Tryz.prog 144 #[u, .int .i64 (-(k : Int))] w fun e w' => ∃ v1, e = .returned (.tuple #[v1, .int .i64 0]) ∧ Fr [] w w' ∧ Bv w' v1 (x / 2 ^ k) n := by
 have hd := h.dl
 obtain ⟨na, la, p, c, rfl, h1, rfl, h3⟩ := h
 rcases Nat.eq_zero_or_pos k with h0 | h0
 ·subst h0
  refine Calls.mono (shift_up 0 na la rfl (by omega) (by omega) h1) ?_
  rintro e w' ⟨v1, rfl, hF, b1⟩
  have e : zv na la / 2 ^ 0 = zv na la * 2 ^ 0 := by rw [Int.pow_zero, Int.ediv_one, Int.mul_one]
  exact ⟨v1, rfl, hF, by rw [e]; exact b1, by rw [Int.pow_zero, Int.ediv_one]; exact hd⟩
 ·refine Calls.mono (shift_down k na la rfl (by omega) h0 hk h1) ?_
  rintro e w' ⟨v1, rfl, hF, b1⟩
  exact ⟨v1, rfl, hF, b1, dl_div hd⟩
theorem bitLen_ar {w : World} {u : Value} {x : Int} {n : Nat} (h : Av w u x n) (hn : n ≤ 200000) :
  Calls Tryz.prog 98 #[u] w fun e w' => e = .returned (.int .i64 (bl x.natAbs : Int)) ∧ Fr [] w w' := by
 obtain ⟨na, la, p, c, rfl, h1, rfl, h3⟩ := h
 rw [zv_abs]
 exact bitLen_any na la rfl (by omega) h1
theorem trailing_ar {w : World} {u : Value} {x : Int} {n : Nat} (h : Av w u x n) (hn : n ≤ 200000) (hT : TabAt 5 Lib.deBruijn32tab w) :
  Calls Tryz.prog 137 #[u] w fun e w' => e = .returned (.int .i64 (tz x.natAbs : Int)) ∧ Fr [] w w' := by
 obtain ⟨na, la, p, c, rfl, h1, rfl, h3⟩ := h
 rw [zv_abs]
 exact trailing_any na la rfl (by omega) h1 hT
theorem abs_shift (x : Int) (k : Nat) : (x * 2 ^ k).natAbs = x.natAbs * 2 ^ k := by
 have e : ((2 : Int) ^ k).natAbs = 2 ^ k := by rw [Int.natAbs_pow]; rfl
 rw [Int.natAbs_mul, e]
theorem tz_le : ∀ (n x : Nat), x < 2 ^ n → tz x ≤ n
 | 0, x, h => by
  have : x = 0 := by simpa using h
  subst this; rw [tz_zero]; exact Nat.le_refl _
 | n + 1, x, h => by
  by_cases h0 : x = 0
  ·subst h0; rw [tz_zero]; omega
  ·by_cases h1 : x % 2 = 1
   ·rw [tz_odd h1]; omega
   ·rw [Nat.pow_succ] at h
    have e : x = 2 * (x / 2) := by omega
    have h2 := tz_le n (x / 2) (by omega)
    rw [e, tz_even (by omega)]
    omega
end Go.Proofs.YtbiohhmpclnpgaaGreatDoor
