import Derived.Test.YtbiohhmpclnpgaaGreatDoorXIn5
import Derived.Test.YtbiohhmpclnpgaaGreatDoorXSx
import Derived.Deep.DeepCutAuto
import Derived.Deep.CutBlock
namespace Go.Proofs.YtbiohhmpclnpgaaGreatDoor
open Go.RowKit
set_option linter.unusedSimpArgs false
set_option linter.unusedVariables false
set_option maxHeartbeats 4000000
set_option maxRecDepth 100000
theorem LR.len {w : World} {p : Option Addr} {c : Nat} {l : List Nat} (h : LR w p c l) : l.length ≤ 9223372036854775807 := by
 have h1 := h.cap; have h2 := h.max; unfold maxLen at h2; omega
theorem LR.clen {w : World} {p : Option Addr} {c : Nat} {l : List Nat} (h : LR w p c l) : l.length ≤ c ∧ c ≤ 9223372036854775807 := by
 have h1 := h.cap; have h2 := h.max; unfold maxLen at h2; omega
theorem trim_down {l : List Nat} (h : Lim l) {m : Nat} (hm : (digs (val l)).length ≤ m + 1) (hx : l[m]? = some 0) : (digs (val l)).length ≤ m := by
 apply Classical.byContradiction
 intro hn
 have e : (digs (val l)).length = m + 1 := by omega
 have h1 := digs_take h
 rw [e] at h1
 have h2 := digs_last (val l)
 rw [e, Nat.add_sub_cancel] at h2
 refine h2 0 ?_ rfl
 rw [← h1, List.getElem?_take, if_pos (by omega)]
 exact hx
theorem trim_here {l : List Nat} (h : Lim l) {m x : Nat} (hm : (digs (val l)).length ≤ m + 1) (hx : l[m]? = some x) (h0 : x ≠ 0) : (digs (val l)).length = m + 1 := by
 apply Classical.byContradiction
 intro hn
 exact h0 (digs_drop h (by omega) hx)
theorem trim_any {w : World} {p : Option Addr} {n c : Nat} (l : List Nat) (hl : l.length = n) (h : LR w p c l) :
  Calls Tryz.prog 50 #[.slice p n c] w fun e w' => e = .returned (.slice p (digs (val l)).length c) ∧ Fr [] w w' := by
 subst hl
 obtain ⟨hlc, hc⟩ := h.clen
 have Hh := hid h
 clear h
 have hd := digs_len_le Hh.out.lim
 obtain ⟨k, hk⟩ : ∃ k, (digs (val l)).length = k := ⟨_, rfl⟩
 rw [hk] at hd ⊢
 have Hk := hid hk
 clear hk
 have H := Hp.start [] w
 go_enter Tryz.func50, Tryz.ntmps50
 go_wp2_with (first | refine x_q H ?_ | refine x_cm (fun h => ?_) (fun h => ?_) | (revert H; refine x_g ?_; intro g w1 hg hf H; (try clear hf)) | (revert H; refine x_s ?_; intro w1 hf H; (try clear hf)))
 go_loopw [3] (fun s3 wr => ∃ m : Nat, m ≤ l.length ∧ k ≤ m ∧ s3 = .int .i64 m ∧ Hp [] w wr []) (fun v _ => (intOf v).toNat)
 case atStart => exact ⟨l.length, Nat.le_refl _, hd, rfl, H⟩
 case round =>
  clear H
  obtain ⟨m, hm, hkm, rfl, H⟩ := hrel
  by_cases h0 : m = 0
  ·have e : k = m := by omega
   subst e
   have h0' : k ≤ 0 := by omega
   clear h0
   go_wp2_with (first | refine x_q H ?_ | refine x_cm (fun h => ?_) (fun h => ?_) | (revert H; refine x_g ?_; intro g w1 hg hf H; (try clear hf)) | (revert H; refine x_s ?_; intro w1 hf H; (try clear hf)))
   go_ret
   exact ⟨by simp, H.fr⟩
  ·obtain ⟨j, rfl⟩ : ∃ j, m = j + 1 := ⟨m - 1, by omega⟩
   obtain ⟨x, hx⟩ : ∃ x, l[j]? = some x := ⟨_, List.getElem?_eq_getElem (by omega)⟩
   have hxv := limbs_at hx
   have Hx := hid hx
   clear hx h0
   obtain ⟨b0, off, rfl, hb0, hcell⟩ := Hh.out.rd.rng (limbs_ne (i := j) (by omega))
   have H1 := H.pushRng (b := b0) (off := off) hb0 (by simp) hcell
   clear H hcell
   have H := H1
   clear H1
   have hxv2 : (limbs l)[(((j + 1 : Nat) : Int) - 1).toNat]? = some (.int .u32 (x : Int)) := by rw [show (((j + 1 : Nat) : Int) - 1).toNat = j by omega]; exact hxv
   by_cases hx0 : x = 0
   ·have hx0' : (x : Int) ≤ 0 := by omega
    subst hx0
    have hdn : k ≤ j := by have := trim_down Hh.out.lim (m := j) (by rw [Hk.out]; exact hkm) Hx.out; rw [Hk.out] at this; exact this
    go_wp2_with (first | refine x_q H ?_ | refine x_cm (fun h => ?_) (fun h => ?_) | (revert H; refine x_g ?_; intro g w1 hg hf H; (try clear hf)) | (revert H; refine x_s ?_; intro w1 hf H; (try clear hf)))
    go_roundw
    case rel => exact ⟨j, by omega, hdn, by go_num, H.sub (by repeat first | exact List.Sublist.refl _ | exact List.nil_sublist _ | apply List.Sublist.cons_cons | apply List.Sublist.cons)⟩
    case measure => (simp [intOf]; try omega)
   ·have hxp : 0 < (x : Int) := by omega
    have e := trim_here Hh.out.lim (m := j) (by rw [Hk.out]; exact hkm) Hx.out hx0
    rw [Hk.out] at e
    subst e
    clear hx0
    go_wp2_with (first | refine x_q H ?_ | refine x_cm (fun h => ?_) (fun h => ?_) | (revert H; refine x_g ?_; intro g w1 hg hf H; (try clear hf)) | (revert H; refine x_s ?_; intro w1 hf H; (try clear hf)))
    go_ret
    exact ⟨by simp, H.fr⟩
theorem LR.of_row {w : World} {e : TypeId} {v : Value} {n : Nat} {l : List Nat} {S : List Nat} (h : RowAt e 1 v n (limbs l) S w) (lm : Lim l) : ∃ p c, v = .slice p l.length c ∧ l.length = n ∧ LR w p c l := by
 obtain ⟨h0, h⟩ := h
 rw [limbs_len, Nat.mul_one] at h0
 subst h0
 rcases h with ⟨_, h1, rfl⟩ | ⟨g, cap, pad, _, rfl, h2, h3, h4, h5⟩
 ·have : l = [] := List.eq_nil_of_length_eq_zero h1
  subst this
  exact ⟨none, 0, rfl, rfl, ⟨fun _ => rfl, Nat.zero_le _, by unfold maxLen; omega, lm, .inl ⟨rfl, rfl, _, _, rfl⟩⟩⟩
 ·refine ⟨_, cap, rfl, rfl, ⟨fun h => (by cases h), h2, h3, lm, .inr ⟨_, cap, rfl, fun j u hj => ?_⟩⟩⟩
  rw [add_mk, cell_of_row w g _ _ _ _ h5, Nat.zero_add]
  simpa using pre_at (pad := pad) hj
theorem LR.of_blk {w : World} {g c : Nat} {l : List Nat} {pad : List Value} {e : TypeId} (h : w.heap[g]? = some (.cells (limbs l ++ pad).toArray e (0, 0))) (lm : Lim l) (hc : l.length ≤ c) (hm : c ≤ maxLen) : LR w (some ⟨g, 0, none⟩) c l :=
 ⟨fun h => (by cases h), hc, hm, lm, .inr ⟨_, c, rfl, fun j u hj => by
  rw [add_mk, cell_of_row w g _ _ _ _ h, Nat.zero_add]
  simpa using pre_at (pad := pad) hj⟩⟩
end Go.Proofs.YtbiohhmpclnpgaaGreatDoor
namespace Go.Proofs.YtbiohhmpclnpgaaGreatDoor
open Go.RowKit
set_option linter.unusedSimpArgs false
set_option linter.unusedVariables false
set_option maxHeartbeats 4000000
set_option maxRecDepth 100000
def cmpZ (x y : Int) : Int := if x < y then -1 else if y < x then 1 else 0
theorem nanI (w : World) (x : Int) : Calls Tryz.prog 157 #[.int .i64 x] w fun e w' => e = .returned (.bool false) ∧ Fr [] w w' := by
 have H := Hp.start [] w
 go_enter Tryz.func157, Tryz.ntmps157
 go_wp2_with (first | refine x_q H ?_ | refine x_cm (fun h => ?_) (fun h => ?_) | (revert H; refine x_g ?_; intro g w1 hg hf H; (try clear hf)) | (revert H; refine x_s ?_; intro w1 hf H; (try clear hf)))
 go_ret
 exact ⟨rfl, H.fr⟩
theorem cmpI (w : World) (x y : Int) : Calls Tryz.prog 193 #[.int .i64 x, .int .i64 y] w fun e w' => e = .returned (.int .i64 (cmpZ x y)) ∧ Fr [] w w' := by
 have H := Hp.start [] w
 have hz : cmpZ x y = if x < y then -1 else if y < x then 1 else 0 := rfl
 by_cases h1 : x < y
 ·have Hz : Hid (cmpZ x y = -1) := hid (by rw [hz, if_pos h1])
  clear hz
  go_enter Tryz.func193, Tryz.ntmps193
  go_wp2_with (first | refine x_q H ?_ | refine x_cm (fun h => ?_) (fun h => ?_) | (revert H; refine x_g ?_; intro g w1 hg hf H; (try clear hf)) | (revert H; refine x_s ?_; intro w1 hf H; (try clear hf)))
  (refine x_c H (nanI _ x) ?_; clear H; rintro e w1 ⟨rfl, hF⟩ H)
  go_wp2_with (first | refine x_q H ?_ | refine x_cm (fun h => ?_) (fun h => ?_) | (revert H; refine x_g ?_; intro g w1 hg hf H; (try clear hf)) | (revert H; refine x_s ?_; intro w1 hf H; (try clear hf)))
  (refine x_c H (nanI _ y) ?_; clear H; rintro e w1 ⟨rfl, hF⟩ H)
  go_wp2_with (first | refine x_q H ?_ | refine x_cm (fun h => ?_) (fun h => ?_) | (revert H; refine x_g ?_; intro g w1 hg hf H; (try clear hf)) | (revert H; refine x_s ?_; intro w1 hf H; (try clear hf)))
  go_ret
  exact ⟨by rw [Hz.out]; rfl, H.fr⟩
 ·by_cases h2 : y < x
  ·have Hz : Hid (cmpZ x y = 1) := hid (by rw [hz, if_neg h1, if_pos h2])
   clear hz
   go_enter Tryz.func193, Tryz.ntmps193
   go_wp2_with (first | refine x_q H ?_ | refine x_cm (fun h => ?_) (fun h => ?_) | (revert H; refine x_g ?_; intro g w1 hg hf H; (try clear hf)) | (revert H; refine x_s ?_; intro w1 hf H; (try clear hf)))
   (refine x_c H (nanI _ x) ?_; clear H; rintro e w1 ⟨rfl, hF⟩ H)
   go_wp2_with (first | refine x_q H ?_ | refine x_cm (fun h => ?_) (fun h => ?_) | (revert H; refine x_g ?_; intro g w1 hg hf H; (try clear hf)) | (revert H; refine x_s ?_; intro w1 hf H; (try clear hf)))
   (refine x_c H (nanI _ y) ?_; clear H; rintro e w1 ⟨rfl, hF⟩ H)
   go_wp2_with (first | refine x_q H ?_ | refine x_cm (fun h => ?_) (fun h => ?_) | (revert H; refine x_g ?_; intro g w1 hg hf H; (try clear hf)) | (revert H; refine x_s ?_; intro w1 hf H; (try clear hf)))
   go_ret
   exact ⟨by rw [Hz.out]; rfl, H.fr⟩
  ·have Hz : Hid (cmpZ x y = 0) := hid (by rw [hz, if_neg h1, if_neg h2])
   clear hz
   go_enter Tryz.func193, Tryz.ntmps193
   go_wp2_with (first | refine x_q H ?_ | refine x_cm (fun h => ?_) (fun h => ?_) | (revert H; refine x_g ?_; intro g w1 hg hf H; (try clear hf)) | (revert H; refine x_s ?_; intro w1 hf H; (try clear hf)))
   (refine x_c H (nanI _ x) ?_; clear H; rintro e w1 ⟨rfl, hF⟩ H)
   go_wp2_with (first | refine x_q H ?_ | refine x_cm (fun h => ?_) (fun h => ?_) | (revert H; refine x_g ?_; intro g w1 hg hf H; (try clear hf)) | (revert H; refine x_s ?_; intro w1 hf H; (try clear hf)))
   (refine x_c H (nanI _ y) ?_; clear H; rintro e w1 ⟨rfl, hF⟩ H)
   go_wp2_with (first | refine x_q H ?_ | refine x_cm (fun h => ?_) (fun h => ?_) | (revert H; refine x_g ?_; intro g w1 hg hf H; (try clear hf)) | (revert H; refine x_s ?_; intro w1 hf H; (try clear hf)))
   go_ret
   exact ⟨by rw [Hz.out]; rfl, H.fr⟩
theorem nanU (w : World) (x : Int) : Calls Tryz.prog 205 #[.int .u32 x] w fun e w' => e = .returned (.bool false) ∧ Fr [] w w' := by
 have H := Hp.start [] w
 go_enter Tryz.func205, Tryz.ntmps205
 go_wp2_with (first | refine x_q H ?_ | refine x_cm (fun h => ?_) (fun h => ?_) | (revert H; refine x_g ?_; intro g w1 hg hf H; (try clear hf)) | (revert H; refine x_s ?_; intro w1 hf H; (try clear hf)))
 go_ret
 exact ⟨rfl, H.fr⟩
theorem cmpU (w : World) (x y : Int) : Calls Tryz.prog 199 #[.int .u32 x, .int .u32 y] w fun e w' => e = .returned (.int .i64 (cmpZ x y)) ∧ Fr [] w w' := by
 have H := Hp.start [] w
 have hz : cmpZ x y = if x < y then -1 else if y < x then 1 else 0 := rfl
 by_cases h1 : x < y
 ·have Hz : Hid (cmpZ x y = -1) := hid (by rw [hz, if_pos h1])
  clear hz
  go_enter Tryz.func199, Tryz.ntmps199
  go_wp2_with (first | refine x_q H ?_ | refine x_cm (fun h => ?_) (fun h => ?_) | (revert H; refine x_g ?_; intro g w1 hg hf H; (try clear hf)) | (revert H; refine x_s ?_; intro w1 hf H; (try clear hf)))
  (refine x_c H (nanU _ x) ?_; clear H; rintro e w1 ⟨rfl, hF⟩ H)
  go_wp2_with (first | refine x_q H ?_ | refine x_cm (fun h => ?_) (fun h => ?_) | (revert H; refine x_g ?_; intro g w1 hg hf H; (try clear hf)) | (revert H; refine x_s ?_; intro w1 hf H; (try clear hf)))
  (refine x_c H (nanU _ y) ?_; clear H; rintro e w1 ⟨rfl, hF⟩ H)
  go_wp2_with (first | refine x_q H ?_ | refine x_cm (fun h => ?_) (fun h => ?_) | (revert H; refine x_g ?_; intro g w1 hg hf H; (try clear hf)) | (revert H; refine x_s ?_; intro w1 hf H; (try clear hf)))
  go_ret
  exact ⟨by rw [Hz.out]; rfl, H.fr⟩
 ·by_cases h2 : y < x
  ·have Hz : Hid (cmpZ x y = 1) := hid (by rw [hz, if_neg h1, if_pos h2])
   clear hz
   go_enter Tryz.func199, Tryz.ntmps199
   go_wp2_with (first | refine x_q H ?_ | refine x_cm (fun h => ?_) (fun h => ?_) | (revert H; refine x_g ?_; intro g w1 hg hf H; (try clear hf)) | (revert H; refine x_s ?_; intro w1 hf H; (try clear hf)))
   (refine x_c H (nanU _ x) ?_; clear H; rintro e w1 ⟨rfl, hF⟩ H)
   go_wp2_with (first | refine x_q H ?_ | refine x_cm (fun h => ?_) (fun h => ?_) | (revert H; refine x_g ?_; intro g w1 hg hf H; (try clear hf)) | (revert H; refine x_s ?_; intro w1 hf H; (try clear hf)))
   (refine x_c H (nanU _ y) ?_; clear H; rintro e w1 ⟨rfl, hF⟩ H)
   go_wp2_with (first | refine x_q H ?_ | refine x_cm (fun h => ?_) (fun h => ?_) | (revert H; refine x_g ?_; intro g w1 hg hf H; (try clear hf)) | (revert H; refine x_s ?_; intro w1 hf H; (try clear hf)))
   go_ret
   exact ⟨by rw [Hz.out]; rfl, H.fr⟩
  ·have Hz : Hid (cmpZ x y = 0) := hid (by rw [hz, if_neg h1, if_neg h2])
   clear hz
   go_enter Tryz.func199, Tryz.ntmps199
   go_wp2_with (first | refine x_q H ?_ | refine x_cm (fun h => ?_) (fun h => ?_) | (revert H; refine x_g ?_; intro g w1 hg hf H; (try clear hf)) | (revert H; refine x_s ?_; intro w1 hf H; (try clear hf)))
   (refine x_c H (nanU _ x) ?_; clear H; rintro e w1 ⟨rfl, hF⟩ H)
   go_wp2_with (first | refine x_q H ?_ | refine x_cm (fun h => ?_) (fun h => ?_) | (revert H; refine x_g ?_; intro g w1 hg hf H; (try clear hf)) | (revert H; refine x_s ?_; intro w1 hf H; (try clear hf)))
   (refine x_c H (nanU _ y) ?_; clear H; rintro e w1 ⟨rfl, hF⟩ H)
   go_wp2_with (first | refine x_q H ?_ | refine x_cm (fun h => ?_) (fun h => ?_) | (revert H; refine x_g ?_; intro g w1 hg hf H; (try clear hf)) | (revert H; refine x_s ?_; intro w1 hf H; (try clear hf)))
   go_ret
   exact ⟨by rw [Hz.out]; rfl, H.fr⟩
theorem cmpZ_lt {x y : Int} (h : x < y) : cmpZ x y = -1 := by unfold cmpZ; rw [if_pos h]
theorem cmpZ_gt {x y : Int} (h : y < x) : cmpZ x y = 1 := by unfold cmpZ; rw [if_neg (by omega), if_pos h]
theorem cmpZ_eq (x : Int) : cmpZ x x = 0 := by unfold cmpZ; rw [if_neg (by omega), if_neg (by omega)]
theorem cmpZ_len {a b : Nat} (h : (digs a).length ≠ (digs b).length) : cmpZ ((digs a).length : Nat) ((digs b).length : Nat) = cmpZ a b := by
 rcases Nat.lt_or_ge (digs a).length (digs b).length with h1 | h1
 ·rw [cmpZ_lt (by omega), cmpZ_lt (by have := digs_len_lt h1; omega)]
 ·have h2 : (digs b).length < (digs a).length := by omega
  rw [cmpZ_gt (by omega), cmpZ_gt (by have := digs_len_lt h2; omega)]
theorem cmpZ_at {a b : List Nat} (ha : Lim a) (hb : Lim b) (hl : a.length = b.length) {i x y : Nat} (hx : a[i]? = some x) (hy : b[i]? = some y) (hd : a.drop (i + 1) = b.drop (i + 1)) (hne : x ≠ y) : cmpZ x y = cmpZ (val a) (val b) := by
 rcases Nat.lt_or_ge x y with h | h
 ·rw [cmpZ_lt (by omega), cmpZ_lt (by have := cmp_at ha hb hl hx hy hd h; omega)]
 ·rw [cmpZ_gt (by omega), cmpZ_gt (by have := cmp_at hb ha hl.symm hy hx hd.symm (by omega); omega)]
theorem drop_same {a b : List Nat} {i x : Nat} (hx : a[i]? = some x) (hy : b[i]? = some x) (hd : a.drop (i + 1) = b.drop (i + 1)) : a.drop i = b.drop i := by
 obtain ⟨h1, e1⟩ := List.getElem?_eq_some_iff.1 hx
 obtain ⟨h2, e2⟩ := List.getElem?_eq_some_iff.1 hy
 rw [List.drop_eq_getElem_cons h1, List.drop_eq_getElem_cons h2, hd, e1, e2]
theorem compare_any {w : World} {p q : Option Addr} {n m c d : Nat} (a b : Nat) (hn : (digs a).length = n) (hm : (digs b).length = m) (h : LR w p c (digs a)) (k : LR w q d (digs b)) :
  Calls Tryz.prog 178 #[.slice p n c, .slice q m d] w fun e w' => e = .returned (.int .i64 (cmpZ a b)) ∧ Fr [] w w' := by
 obtain ⟨hlc, hc⟩ := h.clen
 obtain ⟨hlc2, hc2⟩ := k.clen
 rw [hn] at hlc
 rw [hm] at hlc2
 have Hh := hid h
 have Hk := hid k
 have Hn := hid hn
 have Hm := hid hm
 clear h k hn hm
 have H := Hp.start [] w
 by_cases hnm : n = m
 ·have Hnm := hid hnm
  have hnm1 : n ≤ m := by omega
  have hnm2 : m ≤ n := by omega
  clear hnm
  go_enter Tryz.func178, Tryz.ntmps178
  go_wp2_with (first | refine x_q H ?_ | refine x_cm (fun h => ?_) (fun h => ?_) | (revert H; refine x_g ?_; intro g w1 hg hf H; (try clear hf)) | (revert H; refine x_s ?_; intro w1 hf H; (try clear hf)))
  go_loopw [5] (fun s5 wr => ∃ i : Nat, i ≤ n ∧ s5 = .int .i64 ((i : Int) - 1) ∧ Hid ((digs a).drop i = (digs b).drop i) ∧ Hp [] w wr []) (fun v _ => (intOf v + 1).toNat)
  case atStart => exact ⟨n, Nat.le_refl _, rfl, hid (by rw [List.drop_eq_nil_of_le (by rw [Hn.out]; exact Nat.le_refl _), List.drop_eq_nil_of_le (by rw [Hm.out]; omega)]), H⟩
  case round =>
   clear H
   obtain ⟨i, hi, rfl, hd, H⟩ := hrel
   by_cases h0 : i = 0
   ·have Hz : Hid (cmpZ a b = 0) := hid (by
     have := hd.out
     rw [h0, List.drop_zero, List.drop_zero] at this
     rw [digs_inj this, cmpZ_eq])
    have h0' : (i : Int) - 1 < 0 := by omega
    clear h0
    go_wp2_with (first | refine x_q H ?_ | refine x_cm (fun h => ?_) (fun h => ?_) | (revert H; refine x_g ?_; intro g w1 hg hf H; (try clear hf)) | (revert H; refine x_s ?_; intro w1 hf H; (try clear hf)))
    go_ret
    exact ⟨by rw [Hz.out]; rfl, H.fr⟩
   ·obtain ⟨j, rfl⟩ : ∃ j, i = j + 1 := ⟨i - 1, by omega⟩
    obtain ⟨x, hx⟩ : ∃ x, (digs a)[j]? = some x := ⟨_, List.getElem?_eq_getElem (by rw [Hn.out]; omega)⟩
    obtain ⟨y, hy⟩ : ∃ y, (digs b)[j]? = some y := ⟨_, List.getElem?_eq_getElem (by rw [Hm.out]; omega)⟩
    have hxv := limbs_at hx
    have hyv := limbs_at hy
    have Hx := hid hx
    have Hy := hid hy
    clear hx hy h0
    have r1 := Hh.out.rd
    have r2 := Hk.out.rd
    rw [Hn.out] at r1
    rw [Hm.out] at r2
    obtain ⟨b0, off, rfl, hb0, hcell⟩ := r1.rng (limbs_ne (i := j) (by rw [Hn.out]; omega))
    obtain ⟨b1, off1, rfl, hb1, hcell1⟩ := r2.rng (limbs_ne (i := j) (by rw [Hm.out]; omega))
    have H1 := (H.pushRng (b := b0) (off := off) hb0 (by simp) hcell).pushRng (b := b1) (off := off1) hb1 (by simp) hcell1
    clear H hcell hcell1 r1 r2
    have H := H1
    clear H1
    have e1 : (((j + 1 : Nat) : Int) - 1) = (j : Int) := by omega
    rw [e1]
    clear e1
    have hjm : j < m := by omega
    by_cases hxy : x = y
    ·subst hxy
     have Hd := hid (drop_same Hx.out Hy.out hd.out)
     go_wp2_with (first | refine x_q H ?_ | refine x_cm (fun h => ?_) (fun h => ?_) | (revert H; refine x_g ?_; intro g w1 hg hf H; (try clear hf)) | (revert H; refine x_s ?_; intro w1 hf H; (try clear hf)))
     (revert H; refine w_p 9 (.st 0 (.st 1 (.st 2 (.st 3 (.st 4 (.st 5 (.st 6 (.st 7 (.st 8 .done))))))))) ?_; intro w1 H)
     iterate 9 refine p_q ?_
     (refine pl_done ?_)
     all_goals
      go_wp2_with (first | refine x_q H ?_ | refine x_cm (fun h => ?_) (fun h => ?_) | (revert H; refine x_g ?_; intro g w1 hg hf H; (try clear hf)) | (revert H; refine x_s ?_; intro w1 hf H; (try clear hf)))
      go_roundw
      case rel => exact ⟨j, by omega, by go_num, Hd, H.sub (by repeat first | exact List.Sublist.refl _ | exact List.nil_sublist _ | apply List.Sublist.cons_cons | apply List.Sublist.cons)⟩
      case measure => (simp [intOf]; try omega)
    ·have Hz := hid (cmpZ_at (digs_lim a) (digs_lim b) (by rw [Hn.out, Hm.out, Hnm.out]) Hx.out Hy.out hd.out hxy)
     have hxy1 : ¬ (x : Int) = (y : Int) := by omega
     go_wp2_with (first | refine x_q H ?_ | refine x_cm (fun h => ?_) (fun h => ?_) | (revert H; refine x_g ?_; intro g w1 hg hf H; (try clear hf)) | (revert H; refine x_s ?_; intro w1 hf H; (try clear hf)))
     (revert H; refine w_p 9 (.st 0 (.st 1 (.st 2 (.st 3 (.st 4 (.st 5 (.st 6 (.st 7 (.st 8 .done))))))))) ?_; intro w1 H)
     iterate 9 refine p_q ?_
     (refine pl_done ?_)
     all_goals
      go_wp2_with (first | refine x_q H ?_ | refine x_cm (fun h => ?_) (fun h => ?_) | (revert H; refine x_g ?_; intro g w1 hg hf H; (try clear hf)) | (revert H; refine x_s ?_; intro w1 hf H; (try clear hf)))
      (revert H; refine w_p 10 (.st 0 (.st 1 (.st 2 (.st 3 (.st 4 (.st 5 (.st 6 (.st 7 (.ld 8 (.st 9 .done)))))))))) ?_; intro w1 H)
      iterate 8 refine p_q ?_
      ((refine pl_rw rfl rfl (fun K hK => rw_call rfl Tryz.func199 (by kernel_rfl) rfl (cmpU _ x y) (fun e w1 hpost => ?_))); obtain ⟨rfl, hF⟩ := hpost; refine ⟨_, rfl, ?_⟩; have H1 := H.step hF (by simp); refine hK _ _ (fun hne => by first | exact absurd rfl hne | exact H1.sub (by repeat first | exact List.Sublist.refl _ | exact List.nil_sublist _ | apply List.Sublist.cons_cons | apply List.Sublist.cons)) ?_; clear hK K; (clear H; have H := H1; clear H1); (simp only [nrm, ↓reduceIte, Nat.reduceAdd]))
      refine p_q ?_
      (refine pl_done ?_)
      all_goals
       go_wp2_with (first | refine x_q H ?_ | refine x_cm (fun h => ?_) (fun h => ?_) | (revert H; refine x_g ?_; intro g w1 hg hf H; (try clear hf)) | (revert H; refine x_s ?_; intro w1 hf H; (try clear hf)))
       go_ret
       exact ⟨by rw [Hz.out, val_digs, val_digs]; rfl, H.fr⟩
 ·have hnm1 : ¬ (n : Int) = (m : Int) := by omega
  have Hz := hid (cmpZ_len (a := a) (b := b) (by rw [Hn.out, Hm.out]; exact hnm))
  rw [Hn.out, Hm.out] at Hz
  clear hnm
  go_enter Tryz.func178, Tryz.ntmps178
  go_wp2_with (first | refine x_q H ?_ | refine x_cm (fun h => ?_) (fun h => ?_) | (revert H; refine x_g ?_; intro g w1 hg hf H; (try clear hf)) | (revert H; refine x_s ?_; intro w1 hf H; (try clear hf)))
  (refine x_c H (cmpI _ n m) ?_; clear H; rintro e w1 ⟨rfl, hF⟩ H)
  go_wp2_with (first | refine x_q H ?_ | refine x_cm (fun h => ?_) (fun h => ?_) | (revert H; refine x_g ?_; intro g w1 hg hf H; (try clear hf)) | (revert H; refine x_s ?_; intro w1 hf H; (try clear hf)))
  go_ret
  exact ⟨by rw [← Hz.out]; rfl, H.fr⟩
end Go.Proofs.YtbiohhmpclnpgaaGreatDoor
namespace Go.Proofs.YtbiohhmpclnpgaaGreatDoor
open Go.RowKit
set_option linter.unusedSimpArgs false
set_option linter.unusedVariables false
set_option maxHeartbeats 4000000
set_option maxRecDepth 100000
theorem Hp.blkObj {T : List Nat} {w0 w : World} {l : List Ent} {g : Nat} {cs : List Value} {e : TypeId} (H : Hp T w0 w (.blk g cs e :: l)) (k : Nat) {Q : World → Prop} (hq : Q w) [m : Fm [g] Q] : Hp T w0 w (.obj k [g] Q :: l) := H.recast (.head _) rfl ⟨hq, m.h, fun x hx => by simp only [List.mem_singleton] at hx; subst hx; exact (H.ok _ (.head _)).2⟩
instance {e : TypeId} {sz : Nat} {v : Value} {n : Nat} {xs : List Value} {S : List Nat} : Fm S (RowAt e sz v n xs S) := ⟨RowAt.firm⟩
theorem LR.trim {w : World} {p : Option Addr} {c : Nat} {l : List Nat} (h : LR w p c l) : LR w p c (digs (val l)) := by
 have := h.pre (digs_len_le h.lim)
 rwa [digs_take h.lim] at this
theorem limbs_snoc (o : List Nat) (t : Nat) : limbs o ++ [.int .u32 (t : Int)] = limbs (o ++ [t]) := by simp [limbs]
theorem zeros_len (n : Nat) (v : Value) : (List.replicate n [v]).flatten.length = n := by simp
theorem plus_any {w : World} {p q : Option Addr} {n m c d : Nat} (a b : List Nat) (hn : a.length = n) (hm : b.length = m) (hn0 : n ≤ 1000000) (hm0 : m ≤ 1000000) (h : LR w p c a) (k : LR w q d b) :
  Calls Tryz.prog 48 #[.slice p n c, .slice q m d] w fun e w' => ∃ p' c', e = .returned (.slice p' (digs (val a + val b)).length c') ∧ Fr [] w w' ∧ LR w' p' c' (digs (val a + val b)) := by
 subst hn hm
 have Hh := hid h
 have Hk := hid k
 clear h k
 have H := Hp.start [] w
 by_cases hmn : b.length ≤ a.length
 ·go_enter Tryz.func48, Tryz.ntmps48
  go_wp2_with (first | refine x_q H ?_ | refine x_cm (fun h => ?_) (fun h => ?_) | (revert H; refine x_g ?_; intro g w1 hg hf H; (try clear hf)) | (revert H; refine x_s ?_; intro w1 hf H; (try clear hf)))
  rw [show ((a.length : Int) + 1).toNat = a.length + 1 by omega] at H
  have H1 := H.blkObj 0 (Q := RowAt 104 1 (.slice (some ⟨g, 0, none⟩) 0 (a.length + 1)) 0 [] [g]) ⟨rfl, .inr ⟨g, a.length + 1, (List.replicate (a.length + 1) [Value.int .u32 0]).flatten, rfl, rfl, Nat.zero_le _, by unfold maxLen; omega, by rw [List.nil_append, zeros_len, Nat.mul_one], H.at g⟩⟩
  clear H hg
  have H := H1
  clear H1
  go_loopw [5, 6, 23] (fun s5 s6 s23 wr => ∃ (i : Nat) (o : List Nat) (cy : Nat) (pv : Value) (S : List Nat), i ≤ a.length ∧ s23 = .int .i64 i ∧ s6 = .int .u64 cy ∧ s5 = pv ∧ Hid (o.length = i) ∧ Hid (Lim o) ∧ cy ≤ 1 ∧ Hid (val o + 4294967296 ^ i * cy = val (a.take i) + val (b.take i)) ∧ Hp [] w wr [.obj 0 S (RowAt 104 1 pv i (limbs o) S)]) (fun _ _ v _ => a.length - (intOf v).toNat)
  case atStart => exact ⟨0, [], 0, _, _, Nat.zero_le _, rfl, rfl, by simp, hid rfl, hid Lim.nil, Nat.zero_le _, hid rfl, H⟩
  case round =>
   clear H
   obtain ⟨i, o, cy, pv, S, hi, rfl, rfl, hpv, Hol, Hlo, hcy, Hv, H⟩ := hrel
   obtain ⟨p5, c5, he, _⟩ := (H.rowo 0).form
   subst he
   subst hpv
   by_cases hin : i < a.length
   ·obtain ⟨x, hx⟩ : ∃ x, a[i]? = some x := ⟨_, List.getElem?_eq_getElem hin⟩
    have hxv := limbs_at hx
    have hxB := Hh.out.lim.at hx
    have Hx := hid hx
    clear hx
    obtain ⟨b0, off, rfl, hb0, hcell⟩ := Hh.out.rd.rng (limbs_ne (i := i) hin)
    have H1 := H.pushRng (b := b0) (off := off) hb0 (by simp) hcell
    clear H hcell
    have H := H1
    clear H1
    by_cases him : i < b.length
    ·obtain ⟨y, hy⟩ : ∃ y, b[i]? = some y := ⟨_, List.getElem?_eq_getElem him⟩
     have hyv := limbs_at hy
     have hyB := Hk.out.lim.at hy
     have Hy := hid hy
     clear hy
     obtain ⟨b1, off1, rfl, hb1, hcell1⟩ := Hk.out.rd.rng (limbs_ne (i := i) him)
     have H1 := H.pushRng (b := b1) (off := off1) hb1 (by simp) hcell1
     clear H hcell1
     have H := H1
     clear H1
     go_wp2_with (first | refine x_q H ?_ | refine x_cm (fun h => ?_) (fun h => ?_) | refine x_e (ev_low rfl rfl) ?_ | refine x_e (ev_high rfl rfl) ?_ | (refine is_blt (b := .append) rfl ?_; go_loud (refine wl_rw rfl (fun K hK => c_aprS H rfl rfl rfl 0 (H.rd (b := g) (off := 0) (vs := [.int .u32 (((x : Int) + (cy : Int) + (y : Int)) % 4294967296)]) List.prefix_rfl) rfl (by intro u hu; simp only [List.mem_singleton] at hu; subst hu; rfl) (by omega) (by unfold maxLen; omega) (fun p1 c1 w1 S' hf H1 => hK _ _ ?_))); (clear hK K); (clear H; have H := H1; clear H1; (try dsimp only at H); (try clear hf)); (simp only [nrm, ↓reduceIte, Nat.reduceAdd])) | (revert H; refine x_g ?_; intro g w1 hg hf H; (try clear hf)) | (revert H; refine x_s ?_; intro w1 hf H; (try clear hf)))
     have e1 : ((x : Int) + (cy : Int) + (y : Int)) % 4294967296 = (((x + y + cy) % 4294967296 : Nat) : Int) := by omega
     rw [e1, limbs_snoc] at H
     go_roundw
     case rel => exact ⟨i + 1, o ++ [(x + y + cy) % 4294967296], (x + y + cy) / 4294967296, _, S', by omega, by go_num, by rw [show ((x : Int) + (cy : Int) + (y : Int)) / 4294967296 = (((x + y + cy) / 4294967296 : Nat) : Int) by omega], rfl, hid (by rw [List.length_append, Hol.out]; rfl), hid (Hlo.out.app (Lim.cons (Nat.mod_lt _ (by decide)) Lim.nil)), by omega, hid (by rw [plus_round Hol.out Hv.out rfl, val_take_succ Hx.out, val_take_succ Hy.out]; omega), H.sub (by repeat first | exact List.Sublist.refl _ | exact List.nil_sublist _ | apply List.Sublist.cons_cons | apply List.Sublist.cons)⟩
     case measure => (simp [intOf]; try omega)
    ·go_wp2_with (first | refine x_q H ?_ | refine x_cm (fun h => ?_) (fun h => ?_) | refine x_e (ev_low rfl rfl) ?_ | refine x_e (ev_high rfl rfl) ?_ | (refine is_blt (b := .append) rfl ?_; go_loud (refine wl_rw rfl (fun K hK => c_aprS H rfl rfl rfl 0 (H.rd (b := g) (off := 0) (vs := [.int .u32 (((x : Int) + (cy : Int)) % 4294967296)]) List.prefix_rfl) rfl (by intro u hu; simp only [List.mem_singleton] at hu; subst hu; rfl) (by omega) (by unfold maxLen; omega) (fun p1 c1 w1 S' hf H1 => hK _ _ ?_))); (clear hK K); (clear H; have H := H1; clear H1; (try dsimp only at H); (try clear hf)); (simp only [nrm, ↓reduceIte, Nat.reduceAdd])) | (revert H; refine x_g ?_; intro g w1 hg hf H; (try clear hf)) | (revert H; refine x_s ?_; intro w1 hf H; (try clear hf)))
     have e1 : ((x : Int) + (cy : Int)) % 4294967296 = (((x + 0 + cy) % 4294967296 : Nat) : Int) := by omega
     rw [e1, limbs_snoc] at H
     go_roundw
     case rel => exact ⟨i + 1, o ++ [(x + 0 + cy) % 4294967296], (x + 0 + cy) / 4294967296, _, S', by omega, by go_num, by rw [show ((x : Int) + (cy : Int)) / 4294967296 = (((x + 0 + cy) / 4294967296 : Nat) : Int) by omega], rfl, hid (by rw [List.length_append, Hol.out]; rfl), hid (Hlo.out.app (Lim.cons (Nat.mod_lt _ (by decide)) Lim.nil)), by omega, hid (by rw [plus_round Hol.out Hv.out rfl, val_take_succ Hx.out, take_over (by omega)]; omega), H.sub (by repeat first | exact List.Sublist.refl _ | exact List.nil_sublist _ | apply List.Sublist.cons_cons | apply List.Sublist.cons)⟩
     case measure => (simp [intOf]; try omega)
   ·have e : i = a.length := by omega
    have Hi := hid e
    have HV : Hid (val (o ++ [cy]) = val a + val b) := hid (by
     have := Hv.out
     rw [e, List.take_of_length_le (Nat.le_refl _), List.take_of_length_le (by omega)] at this
     rw [val_snoc, Hol.out, e, this])
    have Hl1 : Hid (Lim (o ++ [cy])) := hid (Hlo.out.app (Lim.cons (by omega) Lim.nil))
    clear e
    go_wp2_with (first | refine x_q H ?_ | refine x_cm (fun h => ?_) (fun h => ?_) | (refine is_blt (b := .append) rfl ?_; go_loud (refine wl_rw rfl (fun K hK => c_aprS H rfl rfl rfl 0 (H.rd (b := g) (off := 0) (vs := [.int .u32 ((cy : Int))]) List.prefix_rfl) rfl (by intro u hu; simp only [List.mem_singleton] at hu; subst hu; rfl) (by omega) (by unfold maxLen; omega) (fun p1 c1 w1 S' hf H1 => hK _ _ ?_))); (clear hK K); (clear H; have H := H1; clear H1; (try dsimp only at H); (try clear hf)); (simp only [nrm, ↓reduceIte, Nat.reduceAdd])) | (revert H; refine x_g ?_; intro g w1 hg hf H; (try clear hf)) | (revert H; refine x_s ?_; intro w1 hf H; (try clear hf)))
    rw [limbs_snoc] at H
    obtain ⟨p6, c6, e6, e7, hL⟩ := LR.of_row (H.rowo 0) Hl1.out
    injection e6 with e61 e62 e63
    subst e61 e63
    have HL := hid hL
    refine Calls.mono (trim_any (o ++ [cy]) e7 HL.out) ?_
    rintro e w1 ⟨rfl, hF⟩
    have HL2 := hid (hL.fr hF).trim
    have H1 := H.step hF (by simp)
    clear H hF hL HL e7
    have H := H1
    clear H1
    go_wp2_with (first | refine x_q H ?_ | refine x_cm (fun h => ?_) (fun h => ?_) | (revert H; refine x_g ?_; intro g w1 hg hf H; (try clear hf)) | (revert H; refine x_s ?_; intro w1 hf H; (try clear hf)))
    go_ret
    rw [HV.out] at HL2
    exact ⟨_, _, by rw [HV.out]; rfl, H.fr, HL2.out⟩
 ·have hmn2 : a.length ≤ b.length := by omega
  go_enter Tryz.func48, Tryz.ntmps48
  go_wp2_with (first | refine x_q H ?_ | refine x_cm (fun h => ?_) (fun h => ?_) | (revert H; refine x_g ?_; intro g w1 hg hf H; (try clear hf)) | (revert H; refine x_s ?_; intro w1 hf H; (try clear hf)))
  rw [show ((b.length : Int) + 1).toNat = b.length + 1 by omega] at H
  have H1 := H.blkObj 0 (Q := RowAt 104 1 (.slice (some ⟨g, 0, none⟩) 0 (b.length + 1)) 0 [] [g]) ⟨rfl, .inr ⟨g, b.length + 1, (List.replicate (b.length + 1) [Value.int .u32 0]).flatten, rfl, rfl, Nat.zero_le _, by unfold maxLen; omega, by rw [List.nil_append, zeros_len, Nat.mul_one], H.at g⟩⟩
  clear H hg
  have H := H1
  clear H1
  go_loopw [5, 6, 23] (fun s5 s6 s23 wr => ∃ (i : Nat) (o : List Nat) (cy : Nat) (pv : Value) (S : List Nat), i ≤ b.length ∧ s23 = .int .i64 i ∧ s6 = .int .u64 cy ∧ s5 = pv ∧ Hid (o.length = i) ∧ Hid (Lim o) ∧ cy ≤ 1 ∧ Hid (val o + 4294967296 ^ i * cy = val (b.take i) + val (a.take i)) ∧ Hp [] w wr [.obj 0 S (RowAt 104 1 pv i (limbs o) S)]) (fun _ _ v _ => b.length - (intOf v).toNat)
  case atStart => exact ⟨0, [], 0, _, _, Nat.zero_le _, rfl, rfl, by simp, hid rfl, hid Lim.nil, Nat.zero_le _, hid rfl, H⟩
  case round =>
   clear H
   obtain ⟨i, o, cy, pv, S, hi, rfl, rfl, hpv, Hol, Hlo, hcy, Hv, H⟩ := hrel
   obtain ⟨p5, c5, he, _⟩ := (H.rowo 0).form
   subst he
   subst hpv
   by_cases hin : i < b.length
   ·obtain ⟨x, hx⟩ : ∃ x, b[i]? = some x := ⟨_, List.getElem?_eq_getElem hin⟩
    have hxv := limbs_at hx
    have hxB := Hk.out.lim.at hx
    have Hx := hid hx
    clear hx
    obtain ⟨b0, off, rfl, hb0, hcell⟩ := Hk.out.rd.rng (limbs_ne (i := i) hin)
    have H1 := H.pushRng (b := b0) (off := off) hb0 (by simp) hcell
    clear H hcell
    have H := H1
    clear H1
    by_cases him : i < a.length
    ·obtain ⟨y, hy⟩ : ∃ y, a[i]? = some y := ⟨_, List.getElem?_eq_getElem him⟩
     have hyv := limbs_at hy
     have hyB := Hh.out.lim.at hy
     have Hy := hid hy
     clear hy
     obtain ⟨b1, off1, rfl, hb1, hcell1⟩ := Hh.out.rd.rng (limbs_ne (i := i) him)
     have H1 := H.pushRng (b := b1) (off := off1) hb1 (by simp) hcell1
     clear H hcell1
     have H := H1
     clear H1
     go_wp2_with (first | refine x_q H ?_ | refine x_cm (fun h => ?_) (fun h => ?_) | refine x_e (ev_low rfl rfl) ?_ | refine x_e (ev_high rfl rfl) ?_ | (refine is_blt (b := .append) rfl ?_; go_loud (refine wl_rw rfl (fun K hK => c_aprS H rfl rfl rfl 0 (H.rd (b := g) (off := 0) (vs := [.int .u32 (((x : Int) + (cy : Int) + (y : Int)) % 4294967296)]) List.prefix_rfl) rfl (by intro u hu; simp only [List.mem_singleton] at hu; subst hu; rfl) (by omega) (by unfold maxLen; omega) (fun p1 c1 w1 S' hf H1 => hK _ _ ?_))); (clear hK K); (clear H; have H := H1; clear H1; (try dsimp only at H); (try clear hf)); (simp only [nrm, ↓reduceIte, Nat.reduceAdd])) | (revert H; refine x_g ?_; intro g w1 hg hf H; (try clear hf)) | (revert H; refine x_s ?_; intro w1 hf H; (try clear hf)))
     have e1 : ((x : Int) + (cy : Int) + (y : Int)) % 4294967296 = (((x + y + cy) % 4294967296 : Nat) : Int) := by omega
     rw [e1, limbs_snoc] at H
     go_roundw
     case rel => exact ⟨i + 1, o ++ [(x + y + cy) % 4294967296], (x + y + cy) / 4294967296, _, S', by omega, by go_num, by rw [show ((x : Int) + (cy : Int) + (y : Int)) / 4294967296 = (((x + y + cy) / 4294967296 : Nat) : Int) by omega], rfl, hid (by rw [List.length_append, Hol.out]; rfl), hid (Hlo.out.app (Lim.cons (Nat.mod_lt _ (by decide)) Lim.nil)), by omega, hid (by rw [plus_round Hol.out Hv.out rfl, val_take_succ Hx.out, val_take_succ Hy.out]; omega), H.sub (by repeat first | exact List.Sublist.refl _ | exact List.nil_sublist _ | apply List.Sublist.cons_cons | apply List.Sublist.cons)⟩
     case measure => (simp [intOf]; try omega)
    ·go_wp2_with (first | refine x_q H ?_ | refine x_cm (fun h => ?_) (fun h => ?_) | refine x_e (ev_low rfl rfl) ?_ | refine x_e (ev_high rfl rfl) ?_ | (refine is_blt (b := .append) rfl ?_; go_loud (refine wl_rw rfl (fun K hK => c_aprS H rfl rfl rfl 0 (H.rd (b := g) (off := 0) (vs := [.int .u32 (((x : Int) + (cy : Int)) % 4294967296)]) List.prefix_rfl) rfl (by intro u hu; simp only [List.mem_singleton] at hu; subst hu; rfl) (by omega) (by unfold maxLen; omega) (fun p1 c1 w1 S' hf H1 => hK _ _ ?_))); (clear hK K); (clear H; have H := H1; clear H1; (try dsimp only at H); (try clear hf)); (simp only [nrm, ↓reduceIte, Nat.reduceAdd])) | (revert H; refine x_g ?_; intro g w1 hg hf H; (try clear hf)) | (revert H; refine x_s ?_; intro w1 hf H; (try clear hf)))
     have e1 : ((x : Int) + (cy : Int)) % 4294967296 = (((x + 0 + cy) % 4294967296 : Nat) : Int) := by omega
     rw [e1, limbs_snoc] at H
     go_roundw
     case rel => exact ⟨i + 1, o ++ [(x + 0 + cy) % 4294967296], (x + 0 + cy) / 4294967296, _, S', by omega, by go_num, by rw [show ((x : Int) + (cy : Int)) / 4294967296 = (((x + 0 + cy) / 4294967296 : Nat) : Int) by omega], rfl, hid (by rw [List.length_append, Hol.out]; rfl), hid (Hlo.out.app (Lim.cons (Nat.mod_lt _ (by decide)) Lim.nil)), by omega, hid (by rw [plus_round Hol.out Hv.out rfl, val_take_succ Hx.out, take_over (by omega)]; omega), H.sub (by repeat first | exact List.Sublist.refl _ | exact List.nil_sublist _ | apply List.Sublist.cons_cons | apply List.Sublist.cons)⟩
     case measure => (simp [intOf]; try omega)
   ·have e : i = b.length := by omega
    have Hi := hid e
    have HV : Hid (val (o ++ [cy]) = val a + val b) := hid (by
     have := Hv.out
     rw [e, List.take_of_length_le (Nat.le_refl _), List.take_of_length_le (by omega)] at this
     rw [val_snoc, Hol.out, e, this]; exact Nat.add_comm _ _)
    have Hl1 : Hid (Lim (o ++ [cy])) := hid (Hlo.out.app (Lim.cons (by omega) Lim.nil))
    clear e
    go_wp2_with (first | refine x_q H ?_ | refine x_cm (fun h => ?_) (fun h => ?_) | (refine is_blt (b := .append) rfl ?_; go_loud (refine wl_rw rfl (fun K hK => c_aprS H rfl rfl rfl 0 (H.rd (b := g) (off := 0) (vs := [.int .u32 ((cy : Int))]) List.prefix_rfl) rfl (by intro u hu; simp only [List.mem_singleton] at hu; subst hu; rfl) (by omega) (by unfold maxLen; omega) (fun p1 c1 w1 S' hf H1 => hK _ _ ?_))); (clear hK K); (clear H; have H := H1; clear H1; (try dsimp only at H); (try clear hf)); (simp only [nrm, ↓reduceIte, Nat.reduceAdd])) | (revert H; refine x_g ?_; intro g w1 hg hf H; (try clear hf)) | (revert H; refine x_s ?_; intro w1 hf H; (try clear hf)))
    rw [limbs_snoc] at H
    obtain ⟨p6, c6, e6, e7, hL⟩ := LR.of_row (H.rowo 0) Hl1.out
    injection e6 with e61 e62 e63
    subst e61 e63
    have HL := hid hL
    refine Calls.mono (trim_any (o ++ [cy]) e7 HL.out) ?_
    rintro e w1 ⟨rfl, hF⟩
    have HL2 := hid (hL.fr hF).trim
    have H1 := H.step hF (by simp)
    clear H hF hL HL e7
    have H := H1
    clear H1
    go_wp2_with (first | refine x_q H ?_ | refine x_cm (fun h => ?_) (fun h => ?_) | (revert H; refine x_g ?_; intro g w1 hg hf H; (try clear hf)) | (revert H; refine x_s ?_; intro w1 hf H; (try clear hf)))
    go_ret
    rw [HV.out] at HL2
    exact ⟨_, _, by rw [HV.out]; rfl, H.fr, HL2.out⟩
end Go.Proofs.YtbiohhmpclnpgaaGreatDoor
namespace Go.Proofs.YtbiohhmpclnpgaaGreatDoor
open Go.RowKit
set_option linter.unusedSimpArgs false
set_option linter.unusedVariables false
set_option maxHeartbeats 4000000
set_option maxRecDepth 100000
section
variable {P : Program} {w : World} {a : Act} {o : Oper}
theorem ev_subM {t t' : TypeId} {x y : Operand} (ho : o.op = .binOp .sub t x y t') {m n : Int} (hx : a.eval x = .int .u64 m) (hy : a.eval y = .int .u64 n) : (execOp a.eval o).run P w = .ok (.value (.int .u64 ((m - n) % 18446744073709551616))) w := by
 rw [ev_subW ho hx hy, IntKind.wrap_u64]
theorem ev_bit {t t' : TypeId} {x : Operand} (ho : o.op = .binOp .and t x (.const (.int .u64 1)) t') {m : Int} (hx : a.eval x = .int .u64 m) (h0 : 0 ≤ m := by omega) (h1 : m < 18446744073709551616 := by omega) : (execOp a.eval o).run P w = .ok (.value (.int .u64 (m % 2))) w :=
 ev_bin ho hx rfl (fun w => by
  have e := bits_mask .u64 64 (by decide) (fun n h0 h1 => wrap_inr (by simp only [inr]; omega)) 1 (by decide) m h0 (by omega)
  show (pure (Value.int .u64 (bits .and .u64 m 1)) : Sem Value).run P w = _
  have e2 : bits .and .u64 m 1 = m % 2 := e
  rw [e2]; rfl)
theorem ev_top {t t' : TypeId} {x : Operand} {kk : IntKind} (ho : o.op = .binOp .shr t x (.const (.int kk 63)) t') {m : Int} (hx : a.eval x = .int .u64 m) : (execOp a.eval o).run P w = .ok (.value (.int .u64 (m / 9223372036854775808))) w := by
 have e1 : (eqGuard .shr t x (.const (.int kk 63)) (.int .u64 m) (.int kk 63)).run P w = .ok () w := by unfold eqGuard; simp
 have hn : a.eval (.const (.int kk 63)) = .int kk 63 := rfl
 unfold execOp
 simp only [ho, hx, hn, Sem.run_bind, e1, Result.andThen_ok, binOp]
 rw [shift_shr_any _ _ _ _ (by decide)]
 rfl
end
theorem zeros_limbs (n : Nat) : (List.replicate n [Value.int .u32 0]).flatten = limbs (List.replicate n 0) := by
 induction n with
 | zero => rfl
 | succ n ih => rw [List.replicate_succ, List.flatten_cons, ih, List.replicate_succ]; rfl
theorem sub_word {Z : Int} {x y bo : Nat} (hZ : Z % 18446744073709551616 = ((x : Int) - (bo : Int) - (y : Int)) % 18446744073709551616) (hx : x < 4294967296) (hy : y < 4294967296) (hb : bo ≤ 1) : ∃ d b' : Nat, IntKind.u64.wrap Z % 4294967296 = (d : Int) ∧ IntKind.u64.wrap Z / 4294967296 % 2 = (b' : Int) ∧ IntKind.u64.wrap Z / 9223372036854775808 = (b' : Int) ∧ b' ≤ 1 ∧ d < 4294967296 ∧ x + 4294967296 * b' = d + y + bo := by
 rw [IntKind.wrap_u64]
 by_cases h : bo + y ≤ x
 ·exact ⟨x - (bo + y), 0, by omega, by omega, by omega, by omega, by omega, by omega⟩
 ·exact ⟨x + 4294967296 - (bo + y), 1, by omega, by omega, by omega, by omega, by omega, by omega⟩
theorem minus_any {w : World} {p q : Option Addr} {n m c d : Nat} (a b : List Nat) (hn : a.length = n) (hm : b.length = m) (hmn : m ≤ n) (hn0 : n ≤ 1000000) (hle : val b ≤ val a) (h : LR w p c a) (k : LR w q d b) :
  Calls Tryz.prog 143 #[.slice p n c, .slice q m d] w fun e w' => ∃ p' c', e = .returned (.slice p' (digs (val a - val b)).length c') ∧ Fr [] w w' ∧ LR w' p' c' (digs (val a - val b)) := by
 subst hn hm
 have Hh := hid h
 have Hk := hid k
 have Hle := hid hle
 clear h k hle
 have H := Hp.start [] w
 go_enter Tryz.func143, Tryz.ntmps143
 go_wp2_with (first | refine x_q H ?_ | refine x_cm (fun h => ?_) (fun h => ?_) | (revert H; refine x_g ?_; intro g w1 hg hf H; (try clear hf)) | (revert H; refine x_s ?_; intro w1 hf H; (try clear hf)))
 rw [Int.toNat_natCast, zeros_limbs] at H
 go_loopw [6, 15] (fun s6 s15 wr => ∃ (i : Nat) (o : List Nat) (bo : Nat), i ≤ a.length ∧ s15 = .int .i64 i ∧ s6 = .int .u64 bo ∧ Hid (o.length = a.length) ∧ Hid (Lim o) ∧ bo ≤ 1 ∧ Hid (val (o.take i) + val (b.take i) = val (a.take i) + 4294967296 ^ i * bo) ∧ Hp [] w wr [.blk g (limbs o) 104]) (fun _ v _ => a.length - (intOf v).toNat)
 case atStart => exact ⟨0, List.replicate a.length 0, 0, Nat.zero_le _, rfl, rfl, hid List.length_replicate, hid (Lim.zeros _), Nat.zero_le _, hid rfl, H⟩
 case round =>
  clear H
  obtain ⟨i, o, bo, hi, rfl, rfl, Hol, Hlo, hbo, Hv, H⟩ := hrel
  by_cases hin : i < a.length
  ·obtain ⟨x, hx⟩ : ∃ x, a[i]? = some x := ⟨_, List.getElem?_eq_getElem hin⟩
   have hxv := limbs_at hx
   have hxB := Hh.out.lim.at hx
   have Hx := hid hx
   clear hx
   have hio : i < o.length := by rw [Hol.out]; exact hin
   obtain ⟨b0, off, rfl, hb0, hcell⟩ := Hh.out.rd.rng (limbs_ne (i := i) hin)
   have H1 := H.pushRng (b := b0) (off := off) hb0 (by simp) hcell
   clear H hcell
   have H := H1
   clear H1
   by_cases him : i < b.length
   ·obtain ⟨y, hy⟩ : ∃ y, b[i]? = some y := ⟨_, List.getElem?_eq_getElem him⟩
    have hyv := limbs_at hy
    have hyB := Hk.out.lim.at hy
    have Hy := hid hy
    clear hy
    obtain ⟨b1, off1, rfl, hb1, hcell1⟩ := Hk.out.rd.rng (limbs_ne (i := i) him)
    have H1 := H.pushRng (b := b1) (off := off1) hb1 (by simp) hcell1
    clear H hcell1
    have H := H1
    clear H1
    obtain ⟨dd, b', f1, f2, _, f4, f5, f6⟩ := sub_word (Z := IntKind.u64.wrap ((x : Int) - (bo : Int)) - (y : Int)) (x := x) (y := y) (bo := bo) (by rw [IntKind.wrap_u64]; omega) hxB hyB hbo
    have F1 := hid f1
    have F2 := hid f2
    have F6 := hid f6
    clear f1 f2 f6
    go_wp2_with (first | refine x_q H ?_ | refine x_cm (fun h => ?_) (fun h => ?_) | refine x_e (ev_low rfl rfl) ?_ | refine x_e (ev_bit rfl rfl) ?_ | refine x_e (ev_high rfl rfl) ?_ | refine x_e (ev_top rfl rfl) ?_ | refine x_e (ev_subM rfl rfl) ?_ | (revert H; refine x_g ?_; intro g w1 hg hf H; (try clear hf)) | (revert H; refine x_s ?_; intro w1 hf H; (try clear hf)))
    rw [F1.out, limbs_set] at H
    go_roundw
    case rel => exact ⟨i + 1, o.set i dd, b', by omega, by go_num, by rw [F2.out], hid (by rw [List.length_set]; exact Hol.out), hid (Hlo.out.set i f5), f4, hid (by rw [take_set_succ _ _ _ hio, val_snoc, List.length_take, Nat.min_eq_left (by omega), val_take_succ Hx.out, val_take_succ Hy.out]; exact minus_round Hv.out F6.out), H.sub (by repeat first | exact List.Sublist.refl _ | exact List.nil_sublist _ | apply List.Sublist.cons_cons | apply List.Sublist.cons)⟩
    case measure => (simp [intOf]; try omega)
   ·obtain ⟨dd, b', f1, f2, _, f4, f5, f6⟩ := sub_word (Z := (x : Int) - (bo : Int)) (x := x) (y := 0) (bo := bo) (by omega) hxB (by decide) hbo
    have F1 := hid f1
    have F2 := hid f2
    have F6 := hid f6
    clear f1 f2 f6
    go_wp2_with (first | refine x_q H ?_ | refine x_cm (fun h => ?_) (fun h => ?_) | refine x_e (ev_low rfl rfl) ?_ | refine x_e (ev_bit rfl rfl) ?_ | refine x_e (ev_high rfl rfl) ?_ | refine x_e (ev_top rfl rfl) ?_ | refine x_e (ev_subM rfl rfl) ?_ | (revert H; refine x_g ?_; intro g w1 hg hf H; (try clear hf)) | (revert H; refine x_s ?_; intro w1 hf H; (try clear hf)))
    rw [F1.out, limbs_set] at H
    go_roundw
    case rel => exact ⟨i + 1, o.set i dd, b', by omega, by go_num, by rw [F2.out], hid (by rw [List.length_set]; exact Hol.out), hid (Hlo.out.set i f5), f4, hid (by
     rw [take_set_succ _ _ _ hio, val_snoc, List.length_take, Nat.min_eq_left (by omega), val_take_succ Hx.out, take_over (by omega)]
     have := minus_round Hv.out F6.out
     simpa using this), H.sub (by repeat first | exact List.Sublist.refl _ | exact List.nil_sublist _ | apply List.Sublist.cons_cons | apply List.Sublist.cons)⟩
    case measure => (simp [intOf]; try omega)
  ·have e : i = a.length := by omega
   have hV : val o = val a - val b := by
    have h1 := Hv.out
    rw [e, List.take_of_length_le (by rw [Hol.out]; exact Nat.le_refl _), List.take_of_length_le (Nat.le_refl _), List.take_of_length_le hmn] at h1
    have h2 := val_lt Hlo.out
    rw [Hol.out] at h2
    exact (minus_end h2 Hle.out h1).2
   have HV := hid hV
   clear e hV
   go_wp2_with (first | refine x_q H ?_ | refine x_cm (fun h => ?_) (fun h => ?_) | (revert H; refine x_g ?_; intro g w1 hg hf H; (try clear hf)) | (revert H; refine x_s ?_; intro w1 hf H; (try clear hf)))
   have hL : LR _ (some ⟨g, 0, none⟩) a.length o := LR.of_blk (pad := []) (by rw [List.append_nil]; exact H.at g) Hlo.out (by rw [Hol.out]; exact Nat.le_refl _) (by unfold maxLen; omega)
   have HL := hid hL
   refine Calls.mono (trim_any o Hol.out HL.out) ?_
   rintro e w1 ⟨rfl, hF⟩
   have HL2 := hid (hL.fr hF).trim
   have H1 := H.step hF (by simp)
   clear H hF hL HL
   have H := H1
   clear H1
   go_wp2_with (first | refine x_q H ?_ | refine x_cm (fun h => ?_) (fun h => ?_) | (revert H; refine x_g ?_; intro g w1 hg hf H; (try clear hf)) | (revert H; refine x_s ?_; intro w1 hf H; (try clear hf)))
   go_ret
   rw [HV.out] at HL2
   exact ⟨_, _, by rw [HV.out]; rfl, H.fr, HL2.out⟩
end Go.Proofs.YtbiohhmpclnpgaaGreatDoor
namespace Go.Proofs.YtbiohhmpclnpgaaGreatDoor
open Go.RowKit
set_option linter.unusedSimpArgs false
set_option linter.unusedVariables false
set_option maxHeartbeats 4000000
set_option maxRecDepth 100000
theorem LR.empty {w w' : World} {p : Option Addr} {c : Nat} (h : LR w p c []) : LR w' p c [] := ⟨h.nil, h.cap, h.max, h.lim, .inl ⟨rfl, rfl, p, c, rfl⟩⟩
theorem LR.keep {w w' : World} {p : Option Addr} {c : Nat} {l : List Nat} (h : LR w p c l) {g : Nat} {cs : List Value} {t : TypeId} (hg : w.heap[g]? = some (.cells cs.toArray t (0, 0))) (hc : ∀ u ∈ cs, ∀ x, u ≠ .int .u32 x) (k : Fr [g] w w') : LR w' p c l := by
 cases l with
 | nil => exact h.empty
 | cons x l =>
  obtain ⟨b, off, rfl, hb, hcell⟩ := h.rd.rng (by simp [limbs])
  have hbg : b ≠ g := fun e => by
   subst e
   have h0 := hcell 0 (.int .u32 (x : Int)) (by simp [limbs])
   rw [cell_of_row w b _ _ _ _ hg] at h0
   have h1 : cs[off + 0]? = some (.int .u32 (x : Int)) := by simpa using h0
   exact hc _ (List.mem_of_getElem? h1) _ rfl
  refine ⟨h.nil, h.cap, h.max, h.lim, h.rd.fr k (fun b' hb' => ?_)⟩
  have e : b' = b := by
   simp [Value.ownBlock] at hb'
   omega
  subst e
  simpa using hbg
section
variable {P : Program} {Q : Exit → Act → World → Prop} {a : Act} {w w0 : World} {o : Oper} {K : Act → World → Prop} {T : List Nat} {l : List Ent}
theorem c_st2 (H : Hp T w0 w l) {t : TypeId} {x y : Operand} (ho : o.op = .store t x y) {b : Nat} {u v : Value} (hx : a.eval x = .pointer (some ⟨b, 0, none⟩)) (hy : a.eval y = .agg #[u, v]) [hs : Ro P t 2] {r s : Value} {t' : TypeId} {f : Nat → List Value → List Ent} [hm : In b [r, s] t' l f] (h1 : u.oneCell' = true := by rfl) (h2 : v.oneCell' = true := by rfl) (h3 : ∀ x, r ≠ .int .u32 x := by intro x h; cases h) (h4 : ∀ x, s ≠ .int .u32 x := by intro x h; cases h)
  (h : ∀ w', Fr [b] w w' → Hp T w0 w' (f b [u, v]) → (∀ p c l, LR w p c l → LR w' p c l) → K (a.put o.dst undef) w') : o.wp P a w K Q :=
 c_stn H ho hx (vs := [u, v]) hy rfl (by intro z hz; simp only [List.mem_cons, List.not_mem_nil, or_false] at hz; rcases hz with rfl | rfl <;> assumption) (by simp) (fun w' hf H1 => h w' hf H1 (fun p c l hL => hL.keep (H.at b) (by intro z hz x; simp only [List.mem_cons, List.not_mem_nil, or_false] at hz; rcases hz with rfl | rfl; exact h3 x; exact h4 x) hf))
theorem x_s2 {P : Program} {ops : Array Oper} {Q : Exit → Act → World → Prop} {w w0 : World} {rest : List Oper} {o : Oper} {T : List Nat} {l : List Ent} {L : List Value} {ds : List Deferred} {b : Nat} {l' : List Ent} {L' : List Value}
  (h : ∀ w', Fr [b] w w' → Hp T w0 w' l' → (∀ p c l, LR w p c l → LR w' p c l) → wpList P ops Q rest ⟨L'.toArray, ds⟩ w')
  (hw : Region.wanted o (yielded ops L.toArray) = true := by rfl)
  (he : Hp T w0 w l → ∀ K : Act → World → Prop, (∀ w', Fr [b] w w' → Hp T w0 w' l' → (∀ p c l, LR w p c l → LR w' p c l) → K (Act.put ⟨L.toArray, ds⟩ o.dst undef) w') → o.wp P ⟨L.toArray, ds⟩ w K Q := by intro H K hK; exact c_st2 H rfl rfl rfl (h := hK))
  (hs : putL L o.dst undef = L' := by ((try simp only [nrm, putL_s, putL_n, ↓reduceIte, Nat.reduceAdd]); (try exact rfl))) (H : Hp T w0 w l) : wpList P ops Q (o :: rest) ⟨L.toArray, ds⟩ w :=
 wl_rw hw fun K hK => he H K fun w' h2 h3 h4 => hK _ _ (by rw [put_eq, hs]; exact h w' h2 h3 h4)
theorem p_s2 {P : Program} {lo : List Oper} {S : World → Prop} {f i : Nat} {k : Plan} {Q : Exit → Act → World → Prop} {w w0 : World} {o : Oper} {T : List Nat} {l : List Ent} {L : List Value} {ds : List Deferred} {b : Nat} {l' : List Ent} {L' : List Value}
  (h : ∀ w', Fr [b] w w' → Hp T w0 w' l' → (∀ p c l, LR w p c l → LR w' p c l) → k.wp P lo.toArray Q S f ⟨L'.toArray, ds⟩ w') (hi : lo[i]? = some o := by rfl)
  (hw : Region.wanted o (yielded lo.toArray L.toArray) = true := by rfl)
  (he : Hp T w0 w l → ∀ K : Act → World → Prop, (∀ w', Fr [b] w w' → Hp T w0 w' l' → (∀ p c l, LR w p c l → LR w' p c l) → K (Act.put ⟨L.toArray, ds⟩ o.dst undef) w') → o.wp P ⟨L.toArray, ds⟩ w K Q := by intro H K hK; exact c_st2 H rfl rfl rfl (h := hK))
  (hs : putL L o.dst undef = L' := by ((try simp only [nrm, putL_s, putL_n, ↓reduceIte, Nat.reduceAdd]); (try exact rfl)))
  (hS : i ≠ f → ∀ w', Hp T w0 w' l' → S w' := by intro hne w' H1; first | exact absurd rfl hne | exact trivial | exact H1.sub (by repeat first | exact List.Sublist.refl _ | exact List.nil_sublist _ | apply List.Sublist.cons_cons | apply List.Sublist.cons))
  (H : Hp T w0 w l) : Plan.wp P lo.toArray Q S f (.ld i k) ⟨L.toArray, ds⟩ w :=
 pl_rw hi hw fun K hK => he H K fun w' h2 h3 h4 => hK _ _ (fun hne => hS hne w' h3) (by rw [put_eq, hs]; exact h w' h2 h3 h4)
end
theorem zv_neg_iff (neg : Bool) (l : List Nat) : zv neg l < 0 ↔ neg = true ∧ val l ≠ 0 := by
 unfold zv; cases neg <;> simp <;> omega
theorem LR.zero (w : World) : LR w none 0 [] := ⟨fun _ => rfl, Nat.zero_le _, by unfold maxLen; omega, Lim.nil, .inl ⟨rfl, rfl, _, _, rfl⟩⟩
theorem big_any {w : World} {p : Option Addr} {n c : Nat} (neg : Bool) (l : List Nat) (hl : l.length = n) (h : LR w p c l) :
  Calls Tryz.prog 51 #[.bool neg, .slice p n c] w fun e w' => Big e w w' (zv neg l) := by
 have Hh := hid h
 obtain ⟨hlc, hc⟩ := h.clen
 have H := Hp.start [] w
 have Hl := hid hl
 clear h hl
 go_enter Tryz.func51, Tryz.ntmps51
 go_wp2_with (first | refine x_q H ?_ | refine x_cm (fun h => ?_) (fun h => ?_) | (revert H; refine x_g ?_; intro g w1 hg hf H; (try clear hf)) | (revert H; refine x_s ?_; intro w1 hf H; (try clear hf)))
 refine Calls.mono (trim_any l Hl.out (Hh.out.fr H.fr)) ?_
 rintro e w1 ⟨rfl, hF⟩
 have H1 := H.step hF (by simp)
 clear H hF
 have H := H1
 clear H1
 have hml : (digs (val l)).length ≤ l.length := digs_len_le Hh.out.lim
 by_cases h0 : val l = 0
 ·have e0 : (digs (val l)).length = 0 := by rw [h0, digs_zero]; rfl
  have Hz : Hid (zv neg l = 0) := hid (by unfold zv; rw [h0]; split <;> rfl)
  rw [e0]
  clear e0 h0 hml
  go_wp2_with (first | refine x_q H ?_ | refine x_cm (fun h => ?_) (fun h => ?_) | (revert H; refine x_s2 ?_; intro w1 hf H hk; have hk2 := hid hk; clear hk; (try clear hf)) | (revert H; refine x_g ?_; intro g w1 hg hf H; (try clear hf)) | (revert H; refine x_s ?_; intro w1 hf H; (try clear hf)))
  refine c_post H rfl rfl rfl ?_
  refine ⟨none, 0, ?_, H.fr, ?_⟩
  ·rw [Hz.out, show (0 : Int).natAbs = 0 from rfl, digs_zero]; rfl
  ·rw [Hz.out, show (0 : Int).natAbs = 0 from rfl, digs_zero]; exact LR.zero _
 ·have Hn0 := hid h0
  have hp : 0 < (digs (val l)).length := by
   rcases Nat.eq_zero_or_pos (digs (val l)).length with e | e
   ·exact absurd (digs_nil.1 (List.eq_nil_of_length_eq_zero e)) h0
   ·exact e
  obtain ⟨m, hm⟩ : ∃ m, (digs (val l)).length = m := ⟨_, rfl⟩
  have Hm := hid hm
  rw [hm] at hp hml ⊢
  clear hm h0
  go_wp2_with (first | refine x_q H ?_ | refine x_cm (fun h => ?_) (fun h => ?_) | (revert H; refine x_s2 ?_; intro w1 hf H hk; have hk2 := hid hk; clear hk; (try clear hf)) | (revert H; refine x_g ?_; intro g w1 hg hf H; (try clear hf)) | (revert H; refine x_s ?_; intro w1 hf H; (try clear hf)))
  refine c_post H rfl rfl rfl ?_
  refine ⟨p, c, ?_, H.fr, ?_⟩
  ·rw [zv_abs, Hm.out]
   have : decide (zv neg l < 0) = neg := by
    rw [Bool.eq_iff_iff, decide_eq_true_eq, zv_neg_iff]
    exact ⟨fun h => h.1, fun h => ⟨h, Hn0.out⟩⟩
   rw [this]
  ·rw [zv_abs]
   exact Hh.out.trim.fr H.fr
end Go.Proofs.YtbiohhmpclnpgaaGreatDoor
namespace Go.Proofs.YtbiohhmpclnpgaaGreatDoor
open Go.RowKit
set_option linter.unusedSimpArgs false
set_option linter.unusedVariables false
set_option maxHeartbeats 4000000
set_option maxRecDepth 100000
theorem LR.of_owns {w : World} {base : Nat} {e : TypeId} {v : Value} {n : Nat} {l : List Nat} (h : w.ownsRow base e 1 v n (limbs l)) (lm : Lim l) : ∃ p c, v = .slice p l.length c ∧ l.length = n ∧ LR w p c l := by
 obtain ⟨S, h1, _⟩ := RowAt.of_owns h
 exact LR.of_row h1 lm
theorem clone_any {w : World} {p : Option Addr} {n c : Nat} (l : List Nat) (hl : l.length = n) (hn : n ≤ 1000000) (h : LR w p c l) :
  Calls Tryz.prog 52 #[.slice p n c] w fun e w' => ∃ p' c', e = .returned (.slice p' n c') ∧ Fr [] w w' ∧ LR w' p' c' l := by
 subst hl
 have Hh := hid h
 have H := (Hp.start [] w).newRow 0 (e := 104) (sz := 1)
 cases p with
 | none =>
  have h0 : l = [] := by
   rcases h.rd with ⟨h, _⟩ | ⟨ad, c', h, _⟩
   ·exact List.eq_nil_of_length_eq_zero h
   ·cases h
  subst h0
  obtain rfl := h.nil rfl
  clear h Hh
  go_enter Tryz.func52, Tryz.ntmps52
  go_wp2_with (first | refine x_q H ?_ | refine x_cm (fun h => ?_) (fun h => ?_) | (revert H; refine x_g ?_; intro g w1 hg hf H; (try clear hf)) | (revert H; refine x_s ?_; intro w1 hf H; (try clear hf)))
  go_ret
  exact ⟨none, 0, rfl, H.fr, LR.zero _⟩
 | some ad =>
  clear h
  by_cases h0 : l.length < 1
  ·have h1 : l = [] := List.eq_nil_of_length_eq_zero (by omega)
   subst h1
   go_enter Tryz.func52, Tryz.ntmps52
   go_wp2_with (first | refine x_q H ?_ | refine x_cm (fun h => ?_) (fun h => ?_) | (refine is_buildSlice rfl ?_; refine wl_rw rfl (fun K hK => c_sN H rfl (by repeat first | exact .nil _ | apply Parts.tmp (by rfl) (by rfl) | apply Parts.con (by rfl)) rfl (by intro c hc; simp only [List.mem_cons, List.not_mem_nil, or_false] at hc; (try (rcases hc with rfl | rfl | rfl | rfl | rfl | rfl | rfl | rfl <;> rfl))) (by decide) (by decide) (fun g w1 hg hf H1 => hK _ _ ?_)); (clear hK K); (clear H; have H := H1; clear H1; (try dsimp only at H); (try clear hf)); (simp only [nrm, ↓reduceIte, Nat.reduceAdd])) | (refine is_blt (b := .append) rfl ?_; refine wl_rw rfl (fun K hK => c_apz H rfl rfl rfl (by omega) (fun w1 hf H1 => hK _ _ ?_)); (clear hK K); (clear H; have H := H1; clear H1; (try dsimp only at H); (try clear hf)); (simp only [nrm, ↓reduceIte, Nat.reduceAdd])) | (revert H; refine x_g ?_; intro g w1 hg hf H; (try clear hf)) | (revert H; refine x_s ?_; intro w1 hf H; (try clear hf)))
   go_ret
   exact ⟨_, _, rfl, H.fr, ⟨fun h => (by cases h), Nat.zero_le _, by unfold maxLen; omega, Lim.nil, .inl ⟨rfl, rfl, _, _, rfl⟩⟩⟩
  ·go_enter Tryz.func52, Tryz.ntmps52
   go_wp2_with (first | refine x_q H ?_ | refine x_cm (fun h => ?_) (fun h => ?_) | (refine is_buildSlice rfl ?_; refine wl_rw rfl (fun K hK => c_sN H rfl (by repeat first | exact .nil _ | apply Parts.tmp (by rfl) (by rfl) | apply Parts.con (by rfl)) rfl (by intro c hc; simp only [List.mem_cons, List.not_mem_nil, or_false] at hc; (try (rcases hc with rfl | rfl | rfl | rfl | rfl | rfl | rfl | rfl <;> rfl))) (by decide) (by decide) (fun g w1 hg hf H1 => hK _ _ ?_)); (clear hK K); (clear H; have H := H1; clear H1; (try dsimp only at H); (try clear hf)); (simp only [nrm, ↓reduceIte, Nat.reduceAdd])) | (refine is_blt (b := .append) rfl ?_; go_loud (refine wl_rw rfl (fun K hK => c_apo H rfl rfl rfl List.prefix_rfl rfl rfl (Nat.zero_le _) (Hh.out.rd.fr H.fr (by simp)) (by rw [limbs_len, Nat.mul_one]) (limbs_one _) (by omega) (by omega) (by first | omega | (unfold maxLen; omega)) (fun g w1 cap pad hg hc hcm hpl hf H1 => hK _ _ ?_))); (clear hK K); (clear H; have H := H1; clear H1; (try dsimp only at H); (try clear hf)); (simp only [nrm, ↓reduceIte, Nat.reduceAdd])) | (revert H; refine x_g ?_; intro g w1 hg hf H; (try clear hf)) | (revert H; refine x_s ?_; intro w1 hf H; (try clear hf)))
   go_ret
   exact ⟨_, _, by simp; rfl, H.fr, LR.of_blk (by simpa using H.at g) Hh.out.lim (by omega) hcm⟩
theorem norm_any {w : World} {p : Option Addr} {n c : Nat} (neg : Bool) (l : List Nat) (hl : l.length = n) (hn : n ≤ 1000000) (h : LR w p c l) :
  Calls Tryz.prog 136 #[.agg #[.bool neg, .slice p n c]] w fun e w' => Big e w w' (zv neg l) := by
 have Hh := hid h
 have Hl := hid hl
 have H := Hp.start [] w
 clear h hl
 go_enter Tryz.func136, Tryz.ntmps136
 go_wp2_with (first | refine x_q H ?_ | refine x_cm (fun h => ?_) (fun h => ?_) | (revert H; refine x_g ?_; intro g w1 hg hf H; (try clear hf)) | (revert H; refine x_s ?_; intro w1 hf H; (try clear hf)))
 (revert H; refine w_p 6 (.st 0 (.st 1 (.st 2 (.st 3 (.ld 4 (.ld 5 (.ld 6 .done))))))) ?_; intro w1 H)
 iterate 4 refine p_q ?_
 ((refine pl_rw rfl rfl (fun K hK => rw_call rfl Tryz.func52 (by kernel_rfl) rfl (clone_any l Hl.out hn (Hh.out.fr H.fr)) (fun e w1 hpost => ?_))); obtain ⟨p2, c2, rfl, hF, hL⟩ := hpost; refine ⟨_, rfl, ?_⟩; have HL2 := hid hL; clear hL; have H1 := H.step hF (by simp); refine hK _ _ (fun hne => by first | exact absurd rfl hne | exact H1.sub (by repeat first | exact List.Sublist.refl _ | exact List.nil_sublist _ | apply List.Sublist.cons_cons | apply List.Sublist.cons)) ?_; clear hK K; (clear H; have H := H1; clear H1); (simp only [nrm, ↓reduceIte, Nat.reduceAdd]))
 ((refine pl_rw rfl rfl (fun K hK => rw_call rfl Tryz.func51 (by kernel_rfl) rfl (big_any neg l Hl.out (HL2.out)) (fun e w1 hpost => ?_))); obtain ⟨p3, c3, rfl, hF, hL⟩ := hpost; refine ⟨_, rfl, ?_⟩; have HB2 := hid hL; clear hL; have H1 := H.step hF (by simp); refine hK _ _ (fun hne => by first | exact absurd rfl hne | exact H1.sub (by repeat first | exact List.Sublist.refl _ | exact List.nil_sublist _ | apply List.Sublist.cons_cons | apply List.Sublist.cons)) ?_; clear hK K; (clear H; have H := H1; clear H1); (simp only [nrm, ↓reduceIte, Nat.reduceAdd]))
 (revert H; refine p_s2 ?_; intro w1 hf H hk; have hk2 := hid hk; clear hk; (try clear hf))
 (refine pl_done ?_)
 all_goals
  go_wp2_with (first | refine x_q H ?_ | refine x_cm (fun h => ?_) (fun h => ?_) | (revert H; refine x_s2 ?_; intro w1 hf H hk; have hk2 := hid hk; clear hk; (try clear hf)) | (revert H; refine x_g ?_; intro g w1 hg hf H; (try clear hf)) | (revert H; refine x_s ?_; intro w1 hf H; (try clear hf)))
  refine c_post H rfl rfl rfl ?_
  exact ⟨p3, c3, rfl, H.fr, hk2.out _ _ _ HB2.out⟩
theorem neg_any {w : World} {p : Option Addr} {n c : Nat} (neg : Bool) (l : List Nat) (hl : l.length = n) (hn : n ≤ 1000000) (h : LR w p c l) :
  Calls Tryz.prog 15 #[.agg #[.bool neg, .slice p n c]] w fun e w' => Big e w w' (zv (!neg) l) := by
 have Hh := hid h
 have Hl := hid hl
 have H := Hp.start [] w
 clear h hl
 go_enter Tryz.func15, Tryz.ntmps15
 go_wp2_with (first | refine x_q H ?_ | refine x_cm (fun h => ?_) (fun h => ?_) | (revert H; refine x_g ?_; intro g w1 hg hf H; (try clear hf)) | (revert H; refine x_s ?_; intro w1 hf H; (try clear hf)))
 (revert H; refine w_p 7 (.st 0 (.st 1 (.st 2 (.st 3 (.st 4 (.ld 5 (.ld 6 (.ld 7 .done)))))))) ?_; intro w1 H)
 iterate 5 refine p_q ?_
 ((refine pl_rw rfl rfl (fun K hK => rw_call rfl Tryz.func52 (by kernel_rfl) rfl (clone_any l Hl.out hn (Hh.out.fr H.fr)) (fun e w1 hpost => ?_))); obtain ⟨p2, c2, rfl, hF, hL⟩ := hpost; refine ⟨_, rfl, ?_⟩; have HL2 := hid hL; clear hL; have H1 := H.step hF (by simp); refine hK _ _ (fun hne => by first | exact absurd rfl hne | exact H1.sub (by repeat first | exact List.Sublist.refl _ | exact List.nil_sublist _ | apply List.Sublist.cons_cons | apply List.Sublist.cons)) ?_; clear hK K; (clear H; have H := H1; clear H1); (simp only [nrm, ↓reduceIte, Nat.reduceAdd]))
 ((refine pl_rw rfl rfl (fun K hK => rw_call rfl Tryz.func51 (by kernel_rfl) rfl (big_any (!neg) l Hl.out (HL2.out)) (fun e w1 hpost => ?_))); obtain ⟨p3, c3, rfl, hF, hL⟩ := hpost; refine ⟨_, rfl, ?_⟩; have HB2 := hid hL; clear hL; have H1 := H.step hF (by simp); refine hK _ _ (fun hne => by first | exact absurd rfl hne | exact H1.sub (by repeat first | exact List.Sublist.refl _ | exact List.nil_sublist _ | apply List.Sublist.cons_cons | apply List.Sublist.cons)) ?_; clear hK K; (clear H; have H := H1; clear H1); (simp only [nrm, ↓reduceIte, Nat.reduceAdd]))
 (revert H; refine p_s2 ?_; intro w1 hf H hk; have hk2 := hid hk; clear hk; (try clear hf))
 (refine pl_done ?_)
 all_goals
  go_wp2_with (first | refine x_q H ?_ | refine x_cm (fun h => ?_) (fun h => ?_) | (revert H; refine x_s2 ?_; intro w1 hf H hk; have hk2 := hid hk; clear hk; (try clear hf)) | (revert H; refine x_g ?_; intro g w1 hg hf H; (try clear hf)) | (revert H; refine x_s ?_; intro w1 hf H; (try clear hf)))
  refine c_post H rfl rfl rfl ?_
  exact ⟨p3, c3, rfl, H.fr, hk2.out _ _ _ HB2.out⟩
theorem abs_any {w : World} {p : Option Addr} {n c : Nat} (neg : Bool) (l : List Nat) (hl : l.length = n) (hn : n ≤ 1000000) (h : LR w p c l) :
  Calls Tryz.prog 94 #[.agg #[.bool neg, .slice p n c]] w fun e w' => Big e w w' (zv false l) := by
 have Hh := hid h
 have Hl := hid hl
 have H := Hp.start [] w
 clear h hl
 go_enter Tryz.func94, Tryz.ntmps94
 go_wp2_with (first | refine x_q H ?_ | refine x_cm (fun h => ?_) (fun h => ?_) | (revert H; refine x_g ?_; intro g w1 hg hf H; (try clear hf)) | (revert H; refine x_s ?_; intro w1 hf H; (try clear hf)))
 refine Calls.mono (clone_any l Hl.out hn (Hh.out.fr H.fr)) ?_
 rintro e w1 ⟨p2, c2, rfl, hF, hL⟩
 have HL2 := hid hL
 have H1 := H.step hF (by simp)
 clear H hF hL
 have H := H1
 clear H1
 go_wp2_with (first | refine x_q H ?_ | refine x_cm (fun h => ?_) (fun h => ?_) | (revert H; refine x_g ?_; intro g w1 hg hf H; (try clear hf)) | (revert H; refine x_s ?_; intro w1 hf H; (try clear hf)))
 refine Calls.mono (big_any false l Hl.out HL2.out) ?_
 rintro e w1 ⟨p3, c3, rfl, hF, hL⟩
 have HB2 := hid hL
 have H1 := H.step hF (by simp)
 clear H hF hL
 have H := H1
 clear H1
 go_wp2_with (first | refine x_q H ?_ | refine x_cm (fun h => ?_) (fun h => ?_) | (revert H; refine x_s2 ?_; intro w1 hf H hk; have hk2 := hid hk; clear hk; (try clear hf)) | (revert H; refine x_g ?_; intro g w1 hg hf H; (try clear hf)) | (revert H; refine x_s ?_; intro w1 hf H; (try clear hf)))
 refine c_post H rfl rfl rfl ?_
 exact ⟨p3, c3, rfl, H.fr, hk2.out _ _ _ HB2.out⟩
end Go.Proofs.YtbiohhmpclnpgaaGreatDoor
namespace Go.Proofs.YtbiohhmpclnpgaaGreatDoor
open Go.RowKit
set_option linter.unusedSimpArgs false
set_option linter.unusedVariables false
set_option maxHeartbeats 4000000
set_option maxRecDepth 100000
theorem zv_digs (n : Bool) (A : Nat) : zv n (digs A) = if n then -(A : Int) else (A : Int) := by unfold zv; rw [val_digs]
theorem zv_plus (n : Bool) (la lb : List Nat) : zv n (digs (val la + val lb)) = zv n la + zv n lb := by
 rw [zv_digs]; unfold zv; cases n <;> simp <;> omega
theorem zv_minus1 {na nb : Bool} (h : na ≠ nb) {la lb : List Nat} (hle : val lb ≤ val la) : zv na (digs (val la - val lb)) = zv na la + zv nb lb := by
 rw [zv_digs]; unfold zv; cases na <;> cases nb <;> simp at * <;> omega
theorem zv_minus2 {na nb : Bool} (h : na ≠ nb) {la lb : List Nat} (hle : val la ≤ val lb) : zv nb (digs (val lb - val la)) = zv na la + zv nb lb := by
 rw [zv_digs]; unfold zv; cases na <;> cases nb <;> simp at * <;> omega
theorem zv_not (n : Bool) (l : List Nat) : zv (!n) l = - zv n l := by unfold zv; cases n <;> simp
theorem cmpZ_nonneg {a b : Nat} (h : b ≤ a) : 0 ≤ cmpZ a b := by
 rcases Nat.lt_or_ge b a with h1 | h1
 ·rw [cmpZ_gt (by omega)]; decide
 ·rw [show a = b by omega, cmpZ_eq]; decide
theorem cmpZ_neg {a b : Nat} (h : a < b) : cmpZ a b < 0 := by rw [cmpZ_lt (by omega)]; decide
theorem digs_mono {a b : Nat} (h : a ≤ b) : (digs a).length ≤ (digs b).length := by
 apply Classical.byContradiction
 intro hn
 have := digs_len_lt (n := b) (m := a) (by omega)
 omega
theorem add_any {w : World} {p q : Option Addr} {n m c d : Nat} (na nb : Bool) (la lb : List Nat) (hn : la.length = n) (hm : lb.length = m) (hn0 : n ≤ 1000000) (hm0 : m ≤ 1000000) (h : LR w p c la) (k : LR w q d lb) :
  Calls Tryz.prog 140 #[.agg #[.bool na, .slice p n c], .agg #[.bool nb, .slice q m d]] w fun e w' => Big e w w' (zv na la + zv nb lb) := by
 subst hn hm
 have Hh := hid h
 have Hk := hid k
 have hla := digs_len_le h.lim
 have hlb := digs_len_le k.lim
 have H := Hp.start [] w
 clear h k
 go_enter Tryz.func140, Tryz.ntmps140
 go_upto_region 1 with (first | refine x_q H ?_ | refine x_cm (fun h => ?_) (fun h => ?_) | (revert H; (first | (refine x_g ?_; intro g w1 hg hf H) | (refine x_s ?_; intro w1 hf H)); (try clear hf)))
 go_cut [2, 3, 4, 5, 6] (fun s2 s3 s4 s5 s6 wx => ∃ g1 g2 g3 : Nat, s2 = .pointer (some ⟨g1, 0, none⟩) ∧ s3 = .pointer (some ⟨g2, 0, none⟩) ∧ s4 = .pointer (some ⟨g3, 0, none⟩) ∧ s5 = .slice p (digs (val la)).length c ∧ s6 = .slice q (digs (val lb)).length d ∧ Hp [] w wx [.blk g3 [.bool false, .slice none 0 0] 51, .blk g2 [.bool nb, .slice q lb.length d] 51, .blk g1 [.bool na, .slice p la.length c] 51])
 case first =>
  (revert H; refine w_p 8 (.st 0 (.st 1 (.st 3 (.st 4 (.ld 2 (.ld 5 (.st 6 (.st 7 .done)))))))) ?_; intro w1 H)
  iterate 4 refine p_q ?_
  ((refine p_c H rfl rfl Tryz.func50 (trim_any la rfl (Hh.out.fr H.fr)) ?_; clear H; rintro e w1 ⟨rfl, hF⟩ H; refine p_r ?_))
  ((refine p_c H rfl rfl Tryz.func50 (trim_any lb rfl (Hk.out.fr H.fr)) ?_; clear H; rintro e w1 ⟨rfl, hF⟩ H; refine p_r ?_))
  iterate 2 refine p_q ?_
  (refine pl_done ?_)
  all_goals
   go_wp2_with (first | refine x_q H ?_ | refine x_cm (fun h => ?_) (fun h => ?_) | (revert H; refine x_g ?_; intro g w1 hg hf H; (try clear hf)) | (revert H; refine x_s ?_; intro w1 hf H; (try clear hf)))
   go_meet
   case rel => exact ⟨_, _, _, rfl, rfl, rfl, rfl, rfl, H⟩
 case rest =>
  clear H
  obtain ⟨g1, g2, g3, rfl, rfl, rfl, rfl, rfl, H⟩ := hcut
  have hA := hid (Hh.out.trim)
  have hB := hid (Hk.out.trim)
  cases na <;> cases nb
  ·go_wp2_with (first | refine x_q H ?_ | refine x_cm (fun h => ?_) (fun h => ?_) | (revert H; refine x_g ?_; intro g w1 hg hf H; (try clear hf)) | (revert H; refine x_s ?_; intro w1 hf H; (try clear hf)))
   (revert H; refine w_p 6 (.st 0 (.st 1 (.st 2 (.st 3 (.ld 4 (.ld 5 (.ld 6 .done))))))) ?_; intro w1 H)
   iterate 4 refine p_q ?_
   ((refine p_c H rfl rfl Tryz.func48 (plus_any (digs (val la)) (digs (val lb)) rfl rfl (by omega) (by omega) (hA.out.fr H.fr) (hB.out.fr H.fr)) ?_; clear H; rintro e w1 ⟨p5, c5, rfl, hF, hL⟩ H; refine p_r ?_); have HL5 := hid hL; clear hL)
   ((refine p_c H rfl rfl Tryz.func51 (big_any false _ rfl HL5.out) ?_; clear H; rintro e w1 ⟨p6, c6, rfl, hF, hL⟩ H; refine p_r ?_); have HL6 := hid hL; clear hL)
   (revert H; refine p_s2 ?_; intro w1 hf H hk; have hk2 := hid hk; clear hk; (try clear hf))
   (refine pl_done ?_)
   all_goals
    go_wp2_with (first | refine x_q H ?_ | refine x_cm (fun h => ?_) (fun h => ?_) | (revert H; refine x_g ?_; intro g w1 hg hf H; (try clear hf)) | (revert H; refine x_s ?_; intro w1 hf H; (try clear hf)))
    refine c_post H rfl rfl rfl ?_
    have hz : zv false (digs (val (digs (val la)) + val (digs (val lb)))) = zv false la + zv false lb := (by rw [val_digs, val_digs]; exact zv_plus _ la lb)
    rw [hz] at HL6
    refine ⟨p6, c6, ?_, H.fr, hk2.out _ _ _ HL6.out⟩
    rw [hz]
  ·rcases Nat.lt_or_ge (val la) (val lb) with hlt | hge
   ·have hc := cmpZ_neg hlt
    have hlen := digs_mono (Nat.le_of_lt hlt)
    have hlt := hid hlt
    go_wp2_with (first | refine x_q H ?_ | refine x_cm (fun h => ?_) (fun h => ?_) | (revert H; refine x_g ?_; intro g w1 hg hf H; (try clear hf)) | (revert H; refine x_s ?_; intro w1 hf H; (try clear hf)))
    (refine x_c H (compare_any (val la) (val lb) rfl rfl (hA.out.fr H.fr) (hB.out.fr H.fr)) ?_; clear H; rintro e w1 ⟨rfl, hF⟩ H)
    generalize cmpZ (val la) (val lb) = z at hc ⊢
    go_wp2_with (first | refine x_q H ?_ | refine x_cm (fun h => ?_) (fun h => ?_) | (revert H; refine x_g ?_; intro g w1 hg hf H; (try clear hf)) | (revert H; refine x_s ?_; intro w1 hf H; (try clear hf)))
    (revert H; refine w_p 6 (.st 0 (.st 1 (.st 2 (.st 3 (.ld 4 (.ld 5 (.ld 6 .done))))))) ?_; intro w1 H)
    iterate 4 refine p_q ?_
    ((refine p_c H rfl rfl Tryz.func143 (minus_any (digs (val lb)) (digs (val la)) rfl rfl hlen (by omega) (by rw [val_digs, val_digs]; exact Nat.le_of_lt hlt.out) (hB.out.fr H.fr) (hA.out.fr H.fr)) ?_; clear H; rintro e w1 ⟨p5, c5, rfl, hF, hL⟩ H; refine p_r ?_); have HL5 := hid hL; clear hL)
    ((refine p_c H rfl rfl Tryz.func51 (big_any true _ rfl HL5.out) ?_; clear H; rintro e w1 ⟨p6, c6, rfl, hF, hL⟩ H; refine p_r ?_); have HL6 := hid hL; clear hL)
    (revert H; refine p_s2 ?_; intro w1 hf H hk; have hk2 := hid hk; clear hk; (try clear hf))
    (refine pl_done ?_)
    all_goals
     go_wp2_with (first | refine x_q H ?_ | refine x_cm (fun h => ?_) (fun h => ?_) | (revert H; refine x_g ?_; intro g w1 hg hf H; (try clear hf)) | (revert H; refine x_s ?_; intro w1 hf H; (try clear hf)))
     refine c_post H rfl rfl rfl ?_
     have hz : zv true (digs (val (digs (val lb)) - val (digs (val la)))) = zv false la + zv true lb := (by rw [val_digs, val_digs]; exact zv_minus2 (by decide) (Nat.le_of_lt hlt.out))
     rw [hz] at HL6
     refine ⟨p6, c6, ?_, H.fr, hk2.out _ _ _ HL6.out⟩
     rw [hz]
   ·have hc := cmpZ_nonneg hge
    have hlen := digs_mono hge
    have hge := hid hge
    go_wp2_with (first | refine x_q H ?_ | refine x_cm (fun h => ?_) (fun h => ?_) | (revert H; refine x_g ?_; intro g w1 hg hf H; (try clear hf)) | (revert H; refine x_s ?_; intro w1 hf H; (try clear hf)))
    (refine x_c H (compare_any (val la) (val lb) rfl rfl (hA.out.fr H.fr) (hB.out.fr H.fr)) ?_; clear H; rintro e w1 ⟨rfl, hF⟩ H)
    generalize cmpZ (val la) (val lb) = z at hc ⊢
    go_wp2_with (first | refine x_q H ?_ | refine x_cm (fun h => ?_) (fun h => ?_) | (revert H; refine x_g ?_; intro g w1 hg hf H; (try clear hf)) | (revert H; refine x_s ?_; intro w1 hf H; (try clear hf)))
    (revert H; refine w_p 6 (.st 0 (.st 1 (.st 2 (.st 3 (.ld 4 (.ld 5 (.ld 6 .done))))))) ?_; intro w1 H)
    iterate 4 refine p_q ?_
    ((refine p_c H rfl rfl Tryz.func143 (minus_any (digs (val la)) (digs (val lb)) rfl rfl hlen (by omega) (by rw [val_digs, val_digs]; exact hge.out) (hA.out.fr H.fr) (hB.out.fr H.fr)) ?_; clear H; rintro e w1 ⟨p5, c5, rfl, hF, hL⟩ H; refine p_r ?_); have HL5 := hid hL; clear hL)
    ((refine p_c H rfl rfl Tryz.func51 (big_any false _ rfl HL5.out) ?_; clear H; rintro e w1 ⟨p6, c6, rfl, hF, hL⟩ H; refine p_r ?_); have HL6 := hid hL; clear hL)
    (revert H; refine p_s2 ?_; intro w1 hf H hk; have hk2 := hid hk; clear hk; (try clear hf))
    (refine pl_done ?_)
    all_goals
     go_wp2_with (first | refine x_q H ?_ | refine x_cm (fun h => ?_) (fun h => ?_) | (revert H; refine x_g ?_; intro g w1 hg hf H; (try clear hf)) | (revert H; refine x_s ?_; intro w1 hf H; (try clear hf)))
     refine c_post H rfl rfl rfl ?_
     have hz : zv false (digs (val (digs (val la)) - val (digs (val lb)))) = zv false la + zv true lb := (by rw [val_digs, val_digs]; exact zv_minus1 (by decide) hge.out)
     rw [hz] at HL6
     refine ⟨p6, c6, ?_, H.fr, hk2.out _ _ _ HL6.out⟩
     rw [hz]
  ·rcases Nat.lt_or_ge (val la) (val lb) with hlt | hge
   ·have hc := cmpZ_neg hlt
    have hlen := digs_mono (Nat.le_of_lt hlt)
    have hlt := hid hlt
    go_wp2_with (first | refine x_q H ?_ | refine x_cm (fun h => ?_) (fun h => ?_) | (revert H; refine x_g ?_; intro g w1 hg hf H; (try clear hf)) | (revert H; refine x_s ?_; intro w1 hf H; (try clear hf)))
    (refine x_c H (compare_any (val la) (val lb) rfl rfl (hA.out.fr H.fr) (hB.out.fr H.fr)) ?_; clear H; rintro e w1 ⟨rfl, hF⟩ H)
    generalize cmpZ (val la) (val lb) = z at hc ⊢
    go_wp2_with (first | refine x_q H ?_ | refine x_cm (fun h => ?_) (fun h => ?_) | (revert H; refine x_g ?_; intro g w1 hg hf H; (try clear hf)) | (revert H; refine x_s ?_; intro w1 hf H; (try clear hf)))
    (revert H; refine w_p 6 (.st 0 (.st 1 (.st 2 (.st 3 (.ld 4 (.ld 5 (.ld 6 .done))))))) ?_; intro w1 H)
    iterate 4 refine p_q ?_
    ((refine p_c H rfl rfl Tryz.func143 (minus_any (digs (val lb)) (digs (val la)) rfl rfl hlen (by omega) (by rw [val_digs, val_digs]; exact Nat.le_of_lt hlt.out) (hB.out.fr H.fr) (hA.out.fr H.fr)) ?_; clear H; rintro e w1 ⟨p5, c5, rfl, hF, hL⟩ H; refine p_r ?_); have HL5 := hid hL; clear hL)
    ((refine p_c H rfl rfl Tryz.func51 (big_any false _ rfl HL5.out) ?_; clear H; rintro e w1 ⟨p6, c6, rfl, hF, hL⟩ H; refine p_r ?_); have HL6 := hid hL; clear hL)
    (revert H; refine p_s2 ?_; intro w1 hf H hk; have hk2 := hid hk; clear hk; (try clear hf))
    (refine pl_done ?_)
    all_goals
     go_wp2_with (first | refine x_q H ?_ | refine x_cm (fun h => ?_) (fun h => ?_) | (revert H; refine x_g ?_; intro g w1 hg hf H; (try clear hf)) | (revert H; refine x_s ?_; intro w1 hf H; (try clear hf)))
     refine c_post H rfl rfl rfl ?_
     have hz : zv false (digs (val (digs (val lb)) - val (digs (val la)))) = zv true la + zv false lb := (by rw [val_digs, val_digs]; exact zv_minus2 (by decide) (Nat.le_of_lt hlt.out))
     rw [hz] at HL6
     refine ⟨p6, c6, ?_, H.fr, hk2.out _ _ _ HL6.out⟩
     rw [hz]
   ·have hc := cmpZ_nonneg hge
    have hlen := digs_mono hge
    have hge := hid hge
    go_wp2_with (first | refine x_q H ?_ | refine x_cm (fun h => ?_) (fun h => ?_) | (revert H; refine x_g ?_; intro g w1 hg hf H; (try clear hf)) | (revert H; refine x_s ?_; intro w1 hf H; (try clear hf)))
    (refine x_c H (compare_any (val la) (val lb) rfl rfl (hA.out.fr H.fr) (hB.out.fr H.fr)) ?_; clear H; rintro e w1 ⟨rfl, hF⟩ H)
    generalize cmpZ (val la) (val lb) = z at hc ⊢
    go_wp2_with (first | refine x_q H ?_ | refine x_cm (fun h => ?_) (fun h => ?_) | (revert H; refine x_g ?_; intro g w1 hg hf H; (try clear hf)) | (revert H; refine x_s ?_; intro w1 hf H; (try clear hf)))
    (revert H; refine w_p 6 (.st 0 (.st 1 (.st 2 (.st 3 (.ld 4 (.ld 5 (.ld 6 .done))))))) ?_; intro w1 H)
    iterate 4 refine p_q ?_
    ((refine p_c H rfl rfl Tryz.func143 (minus_any (digs (val la)) (digs (val lb)) rfl rfl hlen (by omega) (by rw [val_digs, val_digs]; exact hge.out) (hA.out.fr H.fr) (hB.out.fr H.fr)) ?_; clear H; rintro e w1 ⟨p5, c5, rfl, hF, hL⟩ H; refine p_r ?_); have HL5 := hid hL; clear hL)
    ((refine p_c H rfl rfl Tryz.func51 (big_any true _ rfl HL5.out) ?_; clear H; rintro e w1 ⟨p6, c6, rfl, hF, hL⟩ H; refine p_r ?_); have HL6 := hid hL; clear hL)
    (revert H; refine p_s2 ?_; intro w1 hf H hk; have hk2 := hid hk; clear hk; (try clear hf))
    (refine pl_done ?_)
    all_goals
     go_wp2_with (first | refine x_q H ?_ | refine x_cm (fun h => ?_) (fun h => ?_) | (revert H; refine x_g ?_; intro g w1 hg hf H; (try clear hf)) | (revert H; refine x_s ?_; intro w1 hf H; (try clear hf)))
     refine c_post H rfl rfl rfl ?_
     have hz : zv true (digs (val (digs (val la)) - val (digs (val lb)))) = zv true la + zv false lb := (by rw [val_digs, val_digs]; exact zv_minus1 (by decide) hge.out)
     rw [hz] at HL6
     refine ⟨p6, c6, ?_, H.fr, hk2.out _ _ _ HL6.out⟩
     rw [hz]
  ·go_wp2_with (first | refine x_q H ?_ | refine x_cm (fun h => ?_) (fun h => ?_) | (revert H; refine x_g ?_; intro g w1 hg hf H; (try clear hf)) | (revert H; refine x_s ?_; intro w1 hf H; (try clear hf)))
   (revert H; refine w_p 6 (.st 0 (.st 1 (.st 2 (.st 3 (.ld 4 (.ld 5 (.ld 6 .done))))))) ?_; intro w1 H)
   iterate 4 refine p_q ?_
   ((refine p_c H rfl rfl Tryz.func48 (plus_any (digs (val la)) (digs (val lb)) rfl rfl (by omega) (by omega) (hA.out.fr H.fr) (hB.out.fr H.fr)) ?_; clear H; rintro e w1 ⟨p5, c5, rfl, hF, hL⟩ H; refine p_r ?_); have HL5 := hid hL; clear hL)
   ((refine p_c H rfl rfl Tryz.func51 (big_any true _ rfl HL5.out) ?_; clear H; rintro e w1 ⟨p6, c6, rfl, hF, hL⟩ H; refine p_r ?_); have HL6 := hid hL; clear hL)
   (revert H; refine p_s2 ?_; intro w1 hf H hk; have hk2 := hid hk; clear hk; (try clear hf))
   (refine pl_done ?_)
   all_goals
    go_wp2_with (first | refine x_q H ?_ | refine x_cm (fun h => ?_) (fun h => ?_) | (revert H; refine x_g ?_; intro g w1 hg hf H; (try clear hf)) | (revert H; refine x_s ?_; intro w1 hf H; (try clear hf)))
    refine c_post H rfl rfl rfl ?_
    have hz : zv true (digs (val (digs (val la)) + val (digs (val lb)))) = zv true la + zv true lb := (by rw [val_digs, val_digs]; exact zv_plus _ la lb)
    rw [hz] at HL6
    refine ⟨p6, c6, ?_, H.fr, hk2.out _ _ _ HL6.out⟩
    rw [hz]
end Go.Proofs.YtbiohhmpclnpgaaGreatDoor
namespace Go.Proofs.YtbiohhmpclnpgaaGreatDoor
open Go.RowKit
set_option linter.unusedSimpArgs false
set_option linter.unusedVariables false
set_option maxHeartbeats 4000000
set_option maxRecDepth 100000
theorem sub_any {w : World} {p q : Option Addr} {n m c d : Nat} (na nb : Bool) (la lb : List Nat) (hn : la.length = n) (hm : lb.length = m) (hn0 : n ≤ 1000000) (hm0 : m ≤ 1000000) (h : LR w p c la) (k : LR w q d lb) :
  Calls Tryz.prog 176 #[.agg #[.bool na, .slice p n c], .agg #[.bool nb, .slice q m d]] w fun e w' => Big e w w' (zv na la - zv nb lb) := by
 have Hh := hid h
 have Hk := hid k
 have H := Hp.start [] w
 have HZ : Hid (zv na la + zv (!nb) lb = zv na la - zv nb lb) := hid (by rw [zv_not]; omega)
 have Hn := hid hn
 have Hm := hid hm
 clear h k hn hm
 go_enter Tryz.func176, Tryz.ntmps176
 go_wp2_with (first | refine x_q H ?_ | refine x_cm (fun h => ?_) (fun h => ?_) | (revert H; refine x_g ?_; intro g w1 hg hf H; (try clear hf)) | (revert H; refine x_s ?_; intro w1 hf H; (try clear hf)))
 refine Calls.mono (add_any na (!nb) la lb Hn.out Hm.out hn0 hm0 (Hh.out.fr H.fr) (Hk.out.fr H.fr)) ?_
 rintro e w1 ⟨p3, c3, rfl, hF, hL⟩
 rw [HZ.out] at hL ⊢
 have HB2 := hid hL
 have H1 := H.step hF (by simp)
 clear H hF hL
 have H := H1
 clear H1
 go_wp2_with (first | refine x_q H ?_ | refine x_cm (fun h => ?_) (fun h => ?_) | (revert H; refine x_s2 ?_; intro w1 hf H hk; have hk2 := hid hk; clear hk; (try clear hf)) | (revert H; refine x_g ?_; intro g w1 hg hf H; (try clear hf)) | (revert H; refine x_s ?_; intro w1 hf H; (try clear hf)))
 refine c_post H rfl rfl rfl ?_
 exact ⟨p3, c3, rfl, H.fr, hk2.out _ _ _ HB2.out⟩
theorem zv_canon (z : Int) : zv (decide (z < 0)) (digs z.natAbs) = z := by
 rw [zv_digs]
 by_cases h : z < 0
 ·simp [h]; omega
 ·simp [h]; omega
end Go.Proofs.YtbiohhmpclnpgaaGreatDoor
