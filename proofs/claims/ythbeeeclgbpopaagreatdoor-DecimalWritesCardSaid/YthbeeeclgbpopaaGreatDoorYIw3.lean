import Derived.Test.YthbeeeclgbpopaaGreatDoorYIn5
import Derived.Test.YthbeeeclgbpopaaGreatDoorYSx
namespace Go.Proofs.YthbeeeclgbpopaaGreatDoor
open Go.RowKit
set_option linter.unusedSimpArgs false
set_option linter.unusedVariables false
set_option maxHeartbeats 4000000
set_option maxRecDepth 100000
theorem LR.len {w : World} {p : Option Addr} {c : Nat} {l : List Nat} (h : LR w p c l) : l.length ≤ 9223372036854775807 := by
 have h1 := h.cap; have h2 := h.max; unfold maxLen at h2; omega
theorem LR.clen {w : World} {p : Option Addr} {c : Nat} {l : List Nat} (h : LR w p c l) : l.length ≤ c ∧ c ≤ 9223372036854775807 := by
 have h1 := h.cap; have h2 := h.max; unfold maxLen at h2; omega
theorem trim_down {l : List Nat} (h : Lim l) {m : Nat} (hm : (digs (val l)).length ≤ m + 1) (hx : l[m]? = some 0) : (digs (val l)).length ≤ m := by
 apply Classical.byContradiction
 intro hn
 have e : (digs (val l)).length = m + 1 := by omega
 have h1 := digs_take h
 rw [e] at h1
 have h2 := digs_last (val l)
 rw [e, Nat.add_sub_cancel] at h2
 refine h2 0 ?_ rfl
 rw [← h1, List.getElem?_take, if_pos (by omega)]
 exact hx
theorem trim_here {l : List Nat} (h : Lim l) {m x : Nat} (hm : (digs (val l)).length ≤ m + 1) (hx : l[m]? = some x) (h0 : x ≠ 0) : (digs (val l)).length = m + 1 := by
 apply Classical.byContradiction
 intro hn
 exact h0 (digs_drop h (by omega) hx)
theorem trim_any {w : World} {p : Option Addr} {n c : Nat} (l : List Nat) (hl : l.length = n) (h : LR w p c l) :
  Calls Tryz.prog 83 #[.slice p n c] w fun e w' => e = .returned (.slice p (digs (val l)).length c) ∧ Fr [] w w' := by
 subst hl
 obtain ⟨hlc, hc⟩ := h.clen
 have Hh := hid h
 clear h
 have hd := digs_len_le Hh.out.lim
 obtain ⟨k, hk⟩ : ∃ k, (digs (val l)).length = k := ⟨_, rfl⟩
 rw [hk] at hd ⊢
 have Hk := hid hk
 clear hk
 have H := Hp.start [] w
 go_enter Tryz.func83, Tryz.ntmps83
 go_wp2_with fail
 go_loopw [3] (fun s3 wr => ∃ m : Nat, m ≤ l.length ∧ k ≤ m ∧ s3 = .int .i64 m ∧ Hp [] w wr []) (fun v _ => (intOf v).toNat)
 case atStart => exact ⟨l.length, Nat.le_refl _, hd, rfl, H⟩
 case round =>
  clear H
  obtain ⟨m, hm, hkm, rfl, H⟩ := hrel
  by_cases h0 : m = 0
  ·have e : k = m := by omega
   subst e
   have h0' : k ≤ 0 := by omega
   clear h0
   go_wp2_with (refine x_q H ?_)
   go_ret
   exact ⟨by simp, H.fr⟩
  ·obtain ⟨j, rfl⟩ : ∃ j, m = j + 1 := ⟨m - 1, by omega⟩
   obtain ⟨x, hx⟩ : ∃ x, l[j]? = some x := ⟨_, List.getElem?_eq_getElem (by omega)⟩
   have hxv := limbs_at hx
   have Hx := hid hx
   clear hx h0
   obtain ⟨b0, off, rfl, hb0, hcell⟩ := Hh.out.rd.rng (limbs_ne (i := j) (by omega))
   have H1 := H.pushRng (b := b0) (off := off) hb0 (by simp) hcell
   clear H hcell
   have H := H1
   clear H1
   have hxv2 : (limbs l)[(((j + 1 : Nat) : Int) - 1).toNat]? = some (.int .u32 (x : Int)) := by rw [show (((j + 1 : Nat) : Int) - 1).toNat = j by omega]; exact hxv
   by_cases hx0 : x = 0
   ·have hx0' : (x : Int) ≤ 0 := by omega
    subst hx0
    have hdn : k ≤ j := by have := trim_down Hh.out.lim (m := j) (by rw [Hk.out]; exact hkm) Hx.out; rw [Hk.out] at this; exact this
    go_wp2_with (refine x_q H ?_)
    go_roundw
    case rel => exact ⟨j, by omega, hdn, by go_num, H.sub (by repeat first | exact List.Sublist.refl _ | exact List.nil_sublist _ | apply List.Sublist.cons_cons | apply List.Sublist.cons)⟩
    case measure => (simp [intOf]; try omega)
   ·have hxp : 0 < (x : Int) := by omega
    have e := trim_here Hh.out.lim (m := j) (by rw [Hk.out]; exact hkm) Hx.out hx0
    rw [Hk.out] at e
    subst e
    clear hx0
    go_wp2_with (refine x_q H ?_)
    go_ret
    exact ⟨by simp, H.fr⟩
theorem LR.of_row {w : World} {e : TypeId} {v : Value} {n : Nat} {l : List Nat} {S : List Nat} (h : RowAt e 1 v n (limbs l) S w) (lm : Lim l) : ∃ p c, v = .slice p l.length c ∧ l.length = n ∧ LR w p c l := by
 obtain ⟨h0, h⟩ := h
 rw [limbs_len, Nat.mul_one] at h0
 subst h0
 rcases h with ⟨_, h1, rfl⟩ | ⟨g, cap, pad, _, rfl, h2, h3, h4, h5⟩
 ·have : l = [] := List.eq_nil_of_length_eq_zero h1
  subst this
  exact ⟨none, 0, rfl, rfl, ⟨fun _ => rfl, Nat.zero_le _, by unfold maxLen; omega, lm, .inl ⟨rfl, rfl, _, _, rfl⟩⟩⟩
 ·refine ⟨_, cap, rfl, rfl, ⟨fun h => (by cases h), h2, h3, lm, .inr ⟨_, cap, rfl, fun j u hj => ?_⟩⟩⟩
  rw [add_mk, cell_of_row w g _ _ _ _ h5, Nat.zero_add]
  simpa using pre_at (pad := pad) hj
theorem LR.of_blk {w : World} {g c : Nat} {l : List Nat} {pad : List Value} {e : TypeId} (h : w.heap[g]? = some (.cells (limbs l ++ pad).toArray e (0, 0))) (lm : Lim l) (hc : l.length ≤ c) (hm : c ≤ maxLen) : LR w (some ⟨g, 0, none⟩) c l :=
 ⟨fun h => (by cases h), hc, hm, lm, .inr ⟨_, c, rfl, fun j u hj => by
  rw [add_mk, cell_of_row w g _ _ _ _ h, Nat.zero_add]
  simpa using pre_at (pad := pad) hj⟩⟩
theorem rtrim_any {w : World} {p : Option Addr} {n c : Nat} (l : List Nat) (hl : l.length = n) (hn : n ≤ 1000000) (h : LR w p c l) :
  Calls Tryz.prog 135 #[.slice p n c] w fun e w' => ∃ p' c', e = .returned (.slice p' (digs (val l)).length c') ∧ Fr [] w w' ∧ LR w' p' c' (digs (val l)) := by
 subst hl
 obtain ⟨hlc, hc⟩ := h.clen
 have Hh := hid h
 clear h
 have hd := digs_len_le Hh.out.lim
 obtain ⟨k, hk⟩ : ∃ k, (digs (val l)).length = k := ⟨_, rfl⟩
 rw [hk] at hd ⊢
 have Hk := hid hk
 clear hk
 have H := (Hp.start [] w).newRow 0 (e := 99) (sz := 1)
 go_enter Tryz.func135, Tryz.ntmps135
 go_wp2_with fail
 go_loopw [3] (fun s3 wr => ∃ m : Nat, m ≤ l.length ∧ k ≤ m ∧ s3 = .int .i64 m ∧ Hp [] w wr [.obj 0 [] (RowAt 99 1 (.slice none 0 0) 0 [] [])]) (fun v _ => (intOf v).toNat)
 case atStart => exact ⟨l.length, Nat.le_refl _, hd, rfl, H⟩
 case round =>
  clear H
  obtain ⟨m, hm, hkm, rfl, H⟩ := hrel
  by_cases h0 : k = m
  ·have Hend : Hid (k = m) := hid h0
   have hkl : k ≤ l.length := by omega
   by_cases hm0 : m = 0
   ·have hm0' : m ≤ 0 := by omega
    clear h0 hm0
    go_wp2_with (refine x_q H ?_)
    go_loopw [4, 5] (fun s4 s5 wr => ∃ (i : Nat) (pv : Value) (S : List Nat), i ≤ k ∧ s5 = .int .i64 i ∧ s4 = pv ∧ Hp [] w wr [.obj 0 S (RowAt 99 1 pv i (limbs (l.take i)) S)]) (fun _ v _ => k - (intOf v).toNat)
    case atStart => exact ⟨0, _, _, Nat.zero_le _, rfl, rfl, H⟩
    case round =>
     clear H
     obtain ⟨i, pv, S, hi, rfl, hpv, H⟩ := hrel
     obtain ⟨p5, c5, he, _⟩ := (H.rowo 0).form
     subst he
     subst hpv
     have hen := Hend.out
     by_cases hin : i < k
     ·obtain ⟨x, hx⟩ : ∃ x, l[i]? = some x := ⟨_, List.getElem?_eq_getElem (by omega)⟩
      have hxv := limbs_at hx
      have Htk : Hid (limbs (l.take i) ++ [.int .u32 (x : Int)] = limbs (l.take (i + 1))) := hid (by rw [List.take_add_one, hx]; simp [limbs])
      clear hx
      obtain ⟨b1, off1, he1, hb1, hcell1⟩ := Hh.out.rd.rng (limbs_ne (i := i) (by omega))
      have H1 := H.pushRng (b := b1) (off := off1) hb1 (by simp) hcell1
      clear H hcell1
      have H := H1
      clear H1
      (try subst he1)
      (try cases he1)
      have him : i < m := by omega
      clear hen
      go_wp2_with (first | refine x_q H ?_ | (refine is_blt (b := .append) rfl ?_; go_loud (refine wl_rw rfl (fun K hK => c_aprS H rfl rfl rfl 0 (H.rd (b := g) (off := 0) (vs := [.int .u32 (x : Int)]) List.prefix_rfl) rfl (by intro u hu; simp only [List.mem_singleton] at hu; subst hu; rfl) (by omega) (by unfold maxLen; omega) (fun p1 c1 w1 S' hf H1 => hK _ _ ?_))); (clear hK K); (clear H; have H := H1; clear H1; (try dsimp only at H); (try clear hf)); (simp only [nrm, ↓reduceIte, Nat.reduceAdd])) | (revert H; refine x_g ?_; intro g w1 hg hf H; (try clear hf)))
      rw [Htk.out] at H
      go_roundw
      case rel => exact ⟨i + 1, _, S', by omega, by go_num, rfl, H.sub (by repeat first | exact List.Sublist.refl _ | exact List.nil_sublist _ | apply List.Sublist.cons_cons | apply List.Sublist.cons)⟩
      case measure => (simp [intOf]; try omega)
     ·have e : i = k := by omega
      subst e
      have e2 : l.take i = digs (val l) := by rw [← Hk.out]; exact digs_take Hh.out.lim
      rw [e2] at H
      have him : m ≤ i := by omega
      clear e2 hen
      go_wp2_with (refine x_q H ?_)
      go_ret
      obtain ⟨p6, c6, e6, e7, hL⟩ := LR.of_row (H.rowo 0) (digs_lim _)
      injection e6 with e61 e62 e63
      subst e61 e63
      exact ⟨_, _, rfl, H.fr, hL⟩
   ·obtain ⟨j, rfl⟩ : ∃ j, m = j + 1 := ⟨m - 1, by omega⟩
    obtain ⟨x, hx⟩ : ∃ x, l[j]? = some x := ⟨_, List.getElem?_eq_getElem (by omega)⟩
    have hx0 : x ≠ 0 := by
     have h1 := digs_take Hh.out.lim
     rw [Hk.out] at h1
     have h2 := digs_last (val l) x
     rw [Hk.out, h0, Nat.add_sub_cancel] at h2
     refine h2 ?_
     rw [← h1, h0, List.getElem?_take, if_pos (by omega)]
     exact hx
    have hxv := limbs_at hx
    clear hx h0 hm0
    have hxp : 0 < (x : Int) := by omega
    obtain ⟨b0, off, rfl, hb0, hcell⟩ := Hh.out.rd.rng (limbs_ne (i := j) (by omega))
    have H1 := H.pushRng (b := b0) (off := off) hb0 (by simp) hcell
    clear H hcell
    have H := H1
    clear H1
    have hxv2 : (limbs l)[(((j + 1 : Nat) : Int) - 1).toNat]? = some (.int .u32 (x : Int)) := by rw [show (((j + 1 : Nat) : Int) - 1).toNat = j by omega]; exact hxv
    clear hx0
    go_wp2_with (refine x_q H ?_)
    have H1 := H.sub (l' := [.obj 0 [] (RowAt 99 1 (.slice none 0 0) 0 [] [])]) (by repeat first | exact List.Sublist.refl _ | exact List.nil_sublist _ | apply List.Sublist.cons_cons | apply List.Sublist.cons)
    clear H
    have H := H1
    clear H1
    go_loopw [4, 5] (fun s4 s5 wr => ∃ (i : Nat) (pv : Value) (S : List Nat), i ≤ k ∧ s5 = .int .i64 i ∧ s4 = pv ∧ Hp [] w wr [.obj 0 S (RowAt 99 1 pv i (limbs (l.take i)) S)]) (fun _ v _ => k - (intOf v).toNat)
    case atStart => exact ⟨0, _, _, Nat.zero_le _, rfl, rfl, H⟩
    case round =>
     clear H
     obtain ⟨i, pv, S, hi, rfl, hpv, H⟩ := hrel
     obtain ⟨p5, c5, he, _⟩ := (H.rowo 0).form
     subst he
     subst hpv
     have hen := Hend.out
     by_cases hin : i < k
     ·obtain ⟨x, hx⟩ : ∃ x, l[i]? = some x := ⟨_, List.getElem?_eq_getElem (by omega)⟩
      have hxv := limbs_at hx
      have Htk : Hid (limbs (l.take i) ++ [.int .u32 (x : Int)] = limbs (l.take (i + 1))) := hid (by rw [List.take_add_one, hx]; simp [limbs])
      clear hx
      obtain ⟨b1, off1, he1, hb1, hcell1⟩ := Hh.out.rd.rng (limbs_ne (i := i) (by omega))
      have H1 := H.pushRng (b := b1) (off := off1) hb1 (by simp) hcell1
      clear H hcell1
      have H := H1
      clear H1
      (try subst he1)
      (try cases he1)
      have him : i < (j + 1) := by omega
      clear hen
      go_wp2_with (first | refine x_q H ?_ | (refine is_blt (b := .append) rfl ?_; go_loud (refine wl_rw rfl (fun K hK => c_aprS H rfl rfl rfl 0 (H.rd (b := g) (off := 0) (vs := [.int .u32 (x : Int)]) List.prefix_rfl) rfl (by intro u hu; simp only [List.mem_singleton] at hu; subst hu; rfl) (by omega) (by unfold maxLen; omega) (fun p1 c1 w1 S' hf H1 => hK _ _ ?_))); (clear hK K); (clear H; have H := H1; clear H1; (try dsimp only at H); (try clear hf)); (simp only [nrm, ↓reduceIte, Nat.reduceAdd])) | (revert H; refine x_g ?_; intro g w1 hg hf H; (try clear hf)))
      rw [Htk.out] at H
      go_roundw
      case rel => exact ⟨i + 1, _, S', by omega, by go_num, rfl, H.sub (by repeat first | exact List.Sublist.refl _ | exact List.nil_sublist _ | apply List.Sublist.cons_cons | apply List.Sublist.cons)⟩
      case measure => (simp [intOf]; try omega)
     ·have e : i = k := by omega
      subst e
      have e2 : l.take i = digs (val l) := by rw [← Hk.out]; exact digs_take Hh.out.lim
      rw [e2] at H
      have him : (j + 1) ≤ i := by omega
      clear e2 hen
      go_wp2_with (refine x_q H ?_)
      go_ret
      obtain ⟨p6, c6, e6, e7, hL⟩ := LR.of_row (H.rowo 0) (digs_lim _)
      injection e6 with e61 e62 e63
      subst e61 e63
      exact ⟨_, _, rfl, H.fr, hL⟩
  ·obtain ⟨j, rfl⟩ : ∃ j, m = j + 1 := ⟨m - 1, by omega⟩
   obtain ⟨x, hx⟩ : ∃ x, l[j]? = some x := ⟨_, List.getElem?_eq_getElem (by omega)⟩
   have hx0 : x = 0 := digs_drop Hh.out.lim (i := j) (by rw [Hk.out]; omega) hx
   subst hx0
   have hxv := limbs_at hx
   clear hx
   obtain ⟨b0, off, rfl, hb0, hcell⟩ := Hh.out.rd.rng (limbs_ne (i := j) (by omega))
   have H1 := H.pushRng (b := b0) (off := off) hb0 (by simp) hcell
   clear H hcell
   have H := H1
   clear H1
   have hxv2 : (limbs l)[(((j + 1 : Nat) : Int) - 1).toNat]? = some (.int .u32 ((0 : Nat) : Int)) := by rw [show (((j + 1 : Nat) : Int) - 1).toNat = j by omega]; exact hxv
   have hkj : k ≤ j := by omega
   clear h0
   go_wp2_with (refine x_q H ?_)
   go_roundw
   case rel => exact ⟨j, by omega, hkj, by go_num, H.sub (by repeat first | exact List.Sublist.refl _ | exact List.nil_sublist _ | apply List.Sublist.cons_cons | apply List.Sublist.cons)⟩
   case measure => (simp [intOf]; try omega)
end Go.Proofs.YthbeeeclgbpopaaGreatDoor
namespace Go.Proofs.YthbeeeclgbpopaaGreatDoor
open Go.RowKit
set_option linter.unusedSimpArgs false
set_option linter.unusedVariables false
set_option maxHeartbeats 4000000
set_option maxRecDepth 100000
def cmpZ (x y : Int) : Int := if x < y then -1 else if y < x then 1 else 0
theorem nanI (w : World) (x : Int) : Calls Tryz.prog 216 #[.int .i64 x] w fun e w' => e = .returned (.bool false) ∧ Fr [] w w' := by
 have H := Hp.start [] w
 go_enter Tryz.func216, Tryz.ntmps216
 go_wp2_with (refine x_q H ?_)
 go_ret
 exact ⟨rfl, H.fr⟩
theorem cmpI (w : World) (x y : Int) : Calls Tryz.prog 194 #[.int .i64 x, .int .i64 y] w fun e w' => e = .returned (.int .i64 (cmpZ x y)) ∧ Fr [] w w' := by
 have H := Hp.start [] w
 have hz : cmpZ x y = if x < y then -1 else if y < x then 1 else 0 := rfl
 by_cases h1 : x < y
 ·have Hz : Hid (cmpZ x y = -1) := hid (by rw [hz, if_pos h1])
  clear hz
  go_enter Tryz.func194, Tryz.ntmps194
  go_wp2_with fail
  (refine x_c H (nanI _ x) ?_; clear H; rintro e w1 ⟨rfl, hF⟩ H)
  go_wp2_with fail
  (refine x_c H (nanI _ y) ?_; clear H; rintro e w1 ⟨rfl, hF⟩ H)
  go_wp2_with (refine x_q H ?_)
  go_ret
  exact ⟨by rw [Hz.out]; rfl, H.fr⟩
 ·by_cases h2 : y < x
  ·have Hz : Hid (cmpZ x y = 1) := hid (by rw [hz, if_neg h1, if_pos h2])
   clear hz
   go_enter Tryz.func194, Tryz.ntmps194
   go_wp2_with fail
   (refine x_c H (nanI _ x) ?_; clear H; rintro e w1 ⟨rfl, hF⟩ H)
   go_wp2_with fail
   (refine x_c H (nanI _ y) ?_; clear H; rintro e w1 ⟨rfl, hF⟩ H)
   go_wp2_with (refine x_q H ?_)
   go_ret
   exact ⟨by rw [Hz.out]; rfl, H.fr⟩
  ·have Hz : Hid (cmpZ x y = 0) := hid (by rw [hz, if_neg h1, if_neg h2])
   clear hz
   go_enter Tryz.func194, Tryz.ntmps194
   go_wp2_with fail
   (refine x_c H (nanI _ x) ?_; clear H; rintro e w1 ⟨rfl, hF⟩ H)
   go_wp2_with fail
   (refine x_c H (nanI _ y) ?_; clear H; rintro e w1 ⟨rfl, hF⟩ H)
   go_wp2_with (refine x_q H ?_)
   go_ret
   exact ⟨by rw [Hz.out]; rfl, H.fr⟩
theorem nanU (w : World) (x : Int) : Calls Tryz.prog 217 #[.int .u32 x] w fun e w' => e = .returned (.bool false) ∧ Fr [] w w' := by
 have H := Hp.start [] w
 go_enter Tryz.func217, Tryz.ntmps217
 go_wp2_with (refine x_q H ?_)
 go_ret
 exact ⟨rfl, H.fr⟩
theorem cmpU (w : World) (x y : Int) : Calls Tryz.prog 195 #[.int .u32 x, .int .u32 y] w fun e w' => e = .returned (.int .i64 (cmpZ x y)) ∧ Fr [] w w' := by
 have H := Hp.start [] w
 have hz : cmpZ x y = if x < y then -1 else if y < x then 1 else 0 := rfl
 by_cases h1 : x < y
 ·have Hz : Hid (cmpZ x y = -1) := hid (by rw [hz, if_pos h1])
  clear hz
  go_enter Tryz.func195, Tryz.ntmps195
  go_wp2_with fail
  (refine x_c H (nanU _ x) ?_; clear H; rintro e w1 ⟨rfl, hF⟩ H)
  go_wp2_with fail
  (refine x_c H (nanU _ y) ?_; clear H; rintro e w1 ⟨rfl, hF⟩ H)
  go_wp2_with (refine x_q H ?_)
  go_ret
  exact ⟨by rw [Hz.out]; rfl, H.fr⟩
 ·by_cases h2 : y < x
  ·have Hz : Hid (cmpZ x y = 1) := hid (by rw [hz, if_neg h1, if_pos h2])
   clear hz
   go_enter Tryz.func195, Tryz.ntmps195
   go_wp2_with fail
   (refine x_c H (nanU _ x) ?_; clear H; rintro e w1 ⟨rfl, hF⟩ H)
   go_wp2_with fail
   (refine x_c H (nanU _ y) ?_; clear H; rintro e w1 ⟨rfl, hF⟩ H)
   go_wp2_with (refine x_q H ?_)
   go_ret
   exact ⟨by rw [Hz.out]; rfl, H.fr⟩
  ·have Hz : Hid (cmpZ x y = 0) := hid (by rw [hz, if_neg h1, if_neg h2])
   clear hz
   go_enter Tryz.func195, Tryz.ntmps195
   go_wp2_with fail
   (refine x_c H (nanU _ x) ?_; clear H; rintro e w1 ⟨rfl, hF⟩ H)
   go_wp2_with fail
   (refine x_c H (nanU _ y) ?_; clear H; rintro e w1 ⟨rfl, hF⟩ H)
   go_wp2_with (refine x_q H ?_)
   go_ret
   exact ⟨by rw [Hz.out]; rfl, H.fr⟩
theorem cmpZ_lt {x y : Int} (h : x < y) : cmpZ x y = -1 := by unfold cmpZ; rw [if_pos h]
theorem cmpZ_gt {x y : Int} (h : y < x) : cmpZ x y = 1 := by unfold cmpZ; rw [if_neg (by omega), if_pos h]
theorem cmpZ_eq (x : Int) : cmpZ x x = 0 := by unfold cmpZ; rw [if_neg (by omega), if_neg (by omega)]
theorem cmpZ_len {a b : Nat} (h : (digs a).length ≠ (digs b).length) : cmpZ ((digs a).length : Nat) ((digs b).length : Nat) = cmpZ a b := by
 rcases Nat.lt_or_ge (digs a).length (digs b).length with h1 | h1
 ·rw [cmpZ_lt (by omega), cmpZ_lt (by have := digs_len_lt h1; omega)]
 ·have h2 : (digs b).length < (digs a).length := by omega
  rw [cmpZ_gt (by omega), cmpZ_gt (by have := digs_len_lt h2; omega)]
theorem cmpZ_at {a b : List Nat} (ha : Lim a) (hb : Lim b) (hl : a.length = b.length) {i x y : Nat} (hx : a[i]? = some x) (hy : b[i]? = some y) (hd : a.drop (i + 1) = b.drop (i + 1)) (hne : x ≠ y) : cmpZ x y = cmpZ (val a) (val b) := by
 rcases Nat.lt_or_ge x y with h | h
 ·rw [cmpZ_lt (by omega), cmpZ_lt (by have := cmp_at ha hb hl hx hy hd h; omega)]
 ·rw [cmpZ_gt (by omega), cmpZ_gt (by have := cmp_at hb ha hl.symm hy hx hd.symm (by omega); omega)]
theorem drop_same {a b : List Nat} {i x : Nat} (hx : a[i]? = some x) (hy : b[i]? = some x) (hd : a.drop (i + 1) = b.drop (i + 1)) : a.drop i = b.drop i := by
 obtain ⟨h1, e1⟩ := List.getElem?_eq_some_iff.1 hx
 obtain ⟨h2, e2⟩ := List.getElem?_eq_some_iff.1 hy
 rw [List.drop_eq_getElem_cons h1, List.drop_eq_getElem_cons h2, hd, e1, e2]
theorem compare_any {w : World} {p q : Option Addr} {n m c d : Nat} (a b : Nat) (hn : (digs a).length = n) (hm : (digs b).length = m) (h : LR w p c (digs a)) (k : LR w q d (digs b)) :
  Calls Tryz.prog 155 #[.slice p n c, .slice q m d] w fun e w' => e = .returned (.int .i64 (cmpZ a b)) ∧ Fr [] w w' := by
 obtain ⟨hlc, hc⟩ := h.clen
 obtain ⟨hlc2, hc2⟩ := k.clen
 rw [hn] at hlc
 rw [hm] at hlc2
 have Hh := hid h
 have Hk := hid k
 have Hn := hid hn
 have Hm := hid hm
 clear h k hn hm
 have H := Hp.start [] w
 by_cases hnm : n = m
 ·have Hnm := hid hnm
  have hnm1 : n ≤ m := by omega
  have hnm2 : m ≤ n := by omega
  clear hnm
  go_enter Tryz.func155, Tryz.ntmps155
  go_wp2_with (refine x_q H ?_)
  go_loopw [5] (fun s5 wr => ∃ i : Nat, i ≤ n ∧ s5 = .int .i64 ((i : Int) - 1) ∧ Hid ((digs a).drop i = (digs b).drop i) ∧ Hp [] w wr []) (fun v _ => (intOf v + 1).toNat)
  case atStart => exact ⟨n, Nat.le_refl _, rfl, hid (by rw [List.drop_eq_nil_of_le (by rw [Hn.out]; exact Nat.le_refl _), List.drop_eq_nil_of_le (by rw [Hm.out]; omega)]), H⟩
  case round =>
   clear H
   obtain ⟨i, hi, rfl, hd, H⟩ := hrel
   by_cases h0 : i = 0
   ·have Hz : Hid (cmpZ a b = 0) := hid (by
     have := hd.out
     rw [h0, List.drop_zero, List.drop_zero] at this
     rw [digs_inj this, cmpZ_eq])
    have h0' : (i : Int) - 1 < 0 := by omega
    clear h0
    go_wp2_with (refine x_q H ?_)
    go_ret
    exact ⟨by rw [Hz.out]; rfl, H.fr⟩
   ·obtain ⟨j, rfl⟩ : ∃ j, i = j + 1 := ⟨i - 1, by omega⟩
    obtain ⟨x, hx⟩ : ∃ x, (digs a)[j]? = some x := ⟨_, List.getElem?_eq_getElem (by rw [Hn.out]; omega)⟩
    obtain ⟨y, hy⟩ : ∃ y, (digs b)[j]? = some y := ⟨_, List.getElem?_eq_getElem (by rw [Hm.out]; omega)⟩
    have hxv := limbs_at hx
    have hyv := limbs_at hy
    have Hx := hid hx
    have Hy := hid hy
    clear hx hy h0
    have r1 := Hh.out.rd
    have r2 := Hk.out.rd
    rw [Hn.out] at r1
    rw [Hm.out] at r2
    obtain ⟨b0, off, rfl, hb0, hcell⟩ := r1.rng (limbs_ne (i := j) (by rw [Hn.out]; omega))
    obtain ⟨b1, off1, rfl, hb1, hcell1⟩ := r2.rng (limbs_ne (i := j) (by rw [Hm.out]; omega))
    have H1 := (H.pushRng (b := b0) (off := off) hb0 (by simp) hcell).pushRng (b := b1) (off := off1) hb1 (by simp) hcell1
    clear H hcell hcell1 r1 r2
    have H := H1
    clear H1
    have e1 : (((j + 1 : Nat) : Int) - 1) = (j : Int) := by omega
    rw [e1]
    clear e1
    have hjm : j < m := by omega
    by_cases hxy : x = y
    ·subst hxy
     have Hd := hid (drop_same Hx.out Hy.out hd.out)
     go_wp2_with (refine x_q H ?_)
     (revert H; refine w_p 9 (.st 0 (.st 1 (.st 2 (.st 3 (.st 4 (.st 5 (.st 6 (.st 7 (.st 8 .done))))))))) ?_; intro w1 H)
     iterate 9 refine p_q ?_
     (refine pl_done ?_)
     all_goals
      go_wp2_with fail
      go_roundw
      case rel => exact ⟨j, by omega, by go_num, Hd, H.sub (by repeat first | exact List.Sublist.refl _ | exact List.nil_sublist _ | apply List.Sublist.cons_cons | apply List.Sublist.cons)⟩
      case measure => (simp [intOf]; try omega)
    ·have Hz := hid (cmpZ_at (digs_lim a) (digs_lim b) (by rw [Hn.out, Hm.out, Hnm.out]) Hx.out Hy.out hd.out hxy)
     have hxy1 : ¬ (x : Int) = (y : Int) := by omega
     go_wp2_with (refine x_q H ?_)
     (revert H; refine w_p 9 (.st 0 (.st 1 (.st 2 (.st 3 (.st 4 (.st 5 (.st 6 (.st 7 (.st 8 .done))))))))) ?_; intro w1 H)
     iterate 9 refine p_q ?_
     (refine pl_done ?_)
     all_goals
      go_wp2_with fail
      (revert H; refine w_p 10 (.st 0 (.st 1 (.st 2 (.st 3 (.st 4 (.st 5 (.st 6 (.st 7 (.ld 8 (.st 9 .done)))))))))) ?_; intro w1 H)
      iterate 8 refine p_q ?_
      ((refine pl_rw rfl rfl (fun K hK => rw_call rfl Tryz.func195 (by kernel_rfl) rfl (cmpU _ x y) (fun e w1 hpost => ?_))); obtain ⟨rfl, hF⟩ := hpost; refine ⟨_, rfl, ?_⟩; have H1 := H.step hF (by simp); refine hK _ _ (fun hne => by first | exact absurd rfl hne | exact H1.sub (by repeat first | exact List.Sublist.refl _ | exact List.nil_sublist _ | apply List.Sublist.cons_cons | apply List.Sublist.cons)) ?_; clear hK K; (clear H; have H := H1; clear H1); (simp only [nrm, ↓reduceIte, Nat.reduceAdd]))
      refine p_q ?_
      (refine pl_done ?_)
      all_goals
       go_wp2_with fail
       go_ret
       exact ⟨by rw [Hz.out, val_digs, val_digs]; rfl, H.fr⟩
 ·have hnm1 : ¬ (n : Int) = (m : Int) := by omega
  have Hz := hid (cmpZ_len (a := a) (b := b) (by rw [Hn.out, Hm.out]; exact hnm))
  rw [Hn.out, Hm.out] at Hz
  clear hnm
  go_enter Tryz.func155, Tryz.ntmps155
  go_wp2_with (refine x_q H ?_)
  (refine x_c H (cmpI _ n m) ?_; clear H; rintro e w1 ⟨rfl, hF⟩ H)
  go_wp2_with fail
  go_ret
  exact ⟨by rw [← Hz.out]; rfl, H.fr⟩
theorem cmpMag_any {w : World} {p q : Option Addr} {n m c d : Nat} (a b : Nat) (hn : (digs a).length = n) (hm : (digs b).length = m) (h : LR w p c (digs a)) (k : LR w q d (digs b)) :
  Calls Tryz.prog 138 #[.slice p n c, .slice q m d] w fun e w' => e = .returned (.int .i64 (cmpZ a b)) ∧ Fr [] w w' := by
 obtain ⟨hlc, hc⟩ := h.clen
 obtain ⟨hlc2, hc2⟩ := k.clen
 rw [hn] at hlc
 rw [hm] at hlc2
 have Hh := hid h
 have Hk := hid k
 have Hn := hid hn
 have Hm := hid hm
 clear h k hn hm
 have H := Hp.start [] w
 by_cases hnm : n = m
 ·have Hnm := hid hnm
  have hnm1 : n ≤ m := by omega
  have hnm2 : m ≤ n := by omega
  clear hnm
  go_enter Tryz.func138, Tryz.ntmps138
  go_wp2_with (refine x_q H ?_)
  go_loopw [5] (fun s5 wr => ∃ i : Nat, i ≤ n ∧ s5 = .int .i64 ((i : Int) - 1) ∧ Hid ((digs a).drop i = (digs b).drop i) ∧ Hp [] w wr []) (fun v _ => (intOf v + 1).toNat)
  case atStart => exact ⟨n, Nat.le_refl _, rfl, hid (by rw [List.drop_eq_nil_of_le (by rw [Hn.out]; exact Nat.le_refl _), List.drop_eq_nil_of_le (by rw [Hm.out]; omega)]), H⟩
  case round =>
   clear H
   obtain ⟨i, hi, rfl, hd, H⟩ := hrel
   by_cases h0 : i = 0
   ·have Hz : Hid (cmpZ a b = 0) := hid (by
     have := hd.out
     rw [h0, List.drop_zero, List.drop_zero] at this
     rw [digs_inj this, cmpZ_eq])
    have h0' : (i : Int) - 1 < 0 := by omega
    clear h0
    go_wp2_with (refine x_q H ?_)
    go_ret
    exact ⟨by rw [Hz.out]; rfl, H.fr⟩
   ·obtain ⟨j, rfl⟩ : ∃ j, i = j + 1 := ⟨i - 1, by omega⟩
    obtain ⟨x, hx⟩ : ∃ x, (digs a)[j]? = some x := ⟨_, List.getElem?_eq_getElem (by rw [Hn.out]; omega)⟩
    obtain ⟨y, hy⟩ : ∃ y, (digs b)[j]? = some y := ⟨_, List.getElem?_eq_getElem (by rw [Hm.out]; omega)⟩
    have hxv := limbs_at hx
    have hyv := limbs_at hy
    have Hx := hid hx
    have Hy := hid hy
    clear hx hy h0
    have r1 := Hh.out.rd
    have r2 := Hk.out.rd
    rw [Hn.out] at r1
    rw [Hm.out] at r2
    obtain ⟨b0, off, rfl, hb0, hcell⟩ := r1.rng (limbs_ne (i := j) (by rw [Hn.out]; omega))
    obtain ⟨b1, off1, rfl, hb1, hcell1⟩ := r2.rng (limbs_ne (i := j) (by rw [Hm.out]; omega))
    have H1 := (H.pushRng (b := b0) (off := off) hb0 (by simp) hcell).pushRng (b := b1) (off := off1) hb1 (by simp) hcell1
    clear H hcell hcell1 r1 r2
    have H := H1
    clear H1
    have e1 : (((j + 1 : Nat) : Int) - 1) = (j : Int) := by omega
    rw [e1]
    clear e1
    have hjm : j < m := by omega
    by_cases hxy : x = y
    ·subst hxy
     have Hd := hid (drop_same Hx.out Hy.out hd.out)
     go_wp2_with (refine x_q H ?_)
     (revert H; refine w_p 9 (.st 0 (.st 1 (.st 2 (.st 3 (.st 4 (.st 5 (.st 6 (.st 7 (.st 8 .done))))))))) ?_; intro w1 H)
     iterate 9 refine p_q ?_
     (refine pl_done ?_)
     all_goals
      go_wp2_with fail
      go_roundw
      case rel => exact ⟨j, by omega, by go_num, Hd, H.sub (by repeat first | exact List.Sublist.refl _ | exact List.nil_sublist _ | apply List.Sublist.cons_cons | apply List.Sublist.cons)⟩
      case measure => (simp [intOf]; try omega)
    ·have Hz := hid (cmpZ_at (digs_lim a) (digs_lim b) (by rw [Hn.out, Hm.out, Hnm.out]) Hx.out Hy.out hd.out hxy)
     rcases Nat.lt_or_ge x y with hlt | hge
     ·have hlt2 : (x : Int) < (y : Int) := by omega
      have Hz2 : Hid (cmpZ a b = -1) := hid (by rw [← cmpZ_lt hlt2, Hz.out, val_digs, val_digs])
      clear hxy
      go_wp2_with (refine x_q H ?_)
      (revert H; refine w_p 9 (.st 0 (.st 1 (.st 2 (.st 3 (.st 4 (.st 5 (.st 6 (.st 7 (.st 8 .done))))))))) ?_; intro w1 H)
      iterate 9 refine p_q ?_
      (refine pl_done ?_)
      all_goals
       go_wp2_with fail
       (revert H; refine w_p 9 (.st 0 (.st 1 (.st 2 (.st 3 (.st 4 (.st 5 (.st 6 (.st 7 (.st 8 .done))))))))) ?_; intro w1 H)
       iterate 9 refine p_q ?_
       (refine pl_done ?_)
       all_goals
        go_wp2_with fail
        go_ret
        exact ⟨by rw [Hz2.out]; rfl, H.fr⟩
     ·have hlt2 : (y : Int) < (x : Int) := by omega
      have Hz2 : Hid (cmpZ a b = 1) := hid (by rw [← cmpZ_gt hlt2, Hz.out, val_digs, val_digs])
      clear hxy hge
      go_wp2_with (refine x_q H ?_)
      (revert H; refine w_p 9 (.st 0 (.st 1 (.st 2 (.st 3 (.st 4 (.st 5 (.st 6 (.st 7 (.st 8 .done))))))))) ?_; intro w1 H)
      iterate 9 refine p_q ?_
      (refine pl_done ?_)
      all_goals
       go_wp2_with fail
       (revert H; refine w_p 9 (.st 0 (.st 1 (.st 2 (.st 3 (.st 4 (.st 5 (.st 6 (.st 7 (.st 8 .done))))))))) ?_; intro w1 H)
       iterate 9 refine p_q ?_
       (refine pl_done ?_)
       all_goals
        go_wp2_with fail
        go_ret
        exact ⟨by rw [Hz2.out]; rfl, H.fr⟩
 ·rcases Nat.lt_or_ge n m with hlt | hge
  ·have Hz2 : Hid (cmpZ a b = -1) := hid (by
    have := cmpZ_len (a := a) (b := b) (by rw [Hn.out, Hm.out]; exact hnm)
    rw [← this, Hn.out, Hm.out, cmpZ_lt (by omega)])
   clear hnm
   go_enter Tryz.func138, Tryz.ntmps138
   go_wp2_with (refine x_q H ?_)
   go_ret
   exact ⟨by rw [Hz2.out]; rfl, H.fr⟩
  ·have hgt : m < n := by omega
   have Hz2 : Hid (cmpZ a b = 1) := hid (by
    have := cmpZ_len (a := a) (b := b) (by rw [Hn.out, Hm.out]; exact hnm)
    rw [← this, Hn.out, Hm.out, cmpZ_gt (by omega)])
   clear hnm hge
   go_enter Tryz.func138, Tryz.ntmps138
   go_wp2_with (refine x_q H ?_)
   go_ret
   exact ⟨by rw [Hz2.out]; rfl, H.fr⟩
end Go.Proofs.YthbeeeclgbpopaaGreatDoor
namespace Go.Proofs.YthbeeeclgbpopaaGreatDoor
open Go.RowKit
set_option linter.unusedSimpArgs false
set_option linter.unusedVariables false
set_option maxHeartbeats 4000000
set_option maxRecDepth 100000
theorem Hp.blkObj {T : List Nat} {w0 w : World} {l : List Ent} {g : Nat} {cs : List Value} {e : TypeId} (H : Hp T w0 w (.blk g cs e :: l)) (k : Nat) {Q : World → Prop} (hq : Q w) [m : Fm [g] Q] : Hp T w0 w (.obj k [g] Q :: l) := H.recast (.head _) rfl ⟨hq, m.h, fun x hx => by simp only [List.mem_singleton] at hx; subst hx; exact (H.ok _ (.head _)).2⟩
instance {e : TypeId} {sz : Nat} {v : Value} {n : Nat} {xs : List Value} {S : List Nat} : Fm S (RowAt e sz v n xs S) := ⟨RowAt.firm⟩
theorem LR.trim {w : World} {p : Option Addr} {c : Nat} {l : List Nat} (h : LR w p c l) : LR w p c (digs (val l)) := by
 have := h.pre (digs_len_le h.lim)
 rwa [digs_take h.lim] at this
theorem limbs_snoc (o : List Nat) (t : Nat) : limbs o ++ [.int .u32 (t : Int)] = limbs (o ++ [t]) := by simp [limbs]
theorem zeros_len (n : Nat) (v : Value) : (List.replicate n [v]).flatten.length = n := by simp
theorem plus_any {w : World} {p q : Option Addr} {n m c d : Nat} (a b : List Nat) (hn : a.length = n) (hm : b.length = m) (hn0 : n ≤ 1000000) (hm0 : m ≤ 1000000) (h : LR w p c a) (k : LR w q d b) :
  Calls Tryz.prog 81 #[.slice p n c, .slice q m d] w fun e w' => ∃ p' c', e = .returned (.slice p' (digs (val a + val b)).length c') ∧ Fr [] w w' ∧ LR w' p' c' (digs (val a + val b)) := by
 subst hn hm
 have Hh := hid h
 have Hk := hid k
 clear h k
 have H := Hp.start [] w
 by_cases hmn : b.length ≤ a.length
 ·go_enter Tryz.func81, Tryz.ntmps81
  go_wp2_with (first | refine x_q H ?_ | (revert H; refine x_g ?_; intro g w1 hg hf H; (try clear hf)))
  rw [show ((a.length : Int) + 1).toNat = a.length + 1 by omega] at H
  have H1 := H.blkObj 0 (Q := RowAt 99 1 (.slice (some ⟨g, 0, none⟩) 0 (a.length + 1)) 0 [] [g]) ⟨rfl, .inr ⟨g, a.length + 1, (List.replicate (a.length + 1) [Value.int .u32 0]).flatten, rfl, rfl, Nat.zero_le _, by unfold maxLen; omega, by rw [List.nil_append, zeros_len, Nat.mul_one], H.at g⟩⟩
  clear H hg
  have H := H1
  clear H1
  go_loopw [5, 6, 23] (fun s5 s6 s23 wr => ∃ (i : Nat) (o : List Nat) (cy : Nat) (pv : Value) (S : List Nat), i ≤ a.length ∧ s23 = .int .i64 i ∧ s6 = .int .u64 cy ∧ s5 = pv ∧ Hid (o.length = i) ∧ Hid (Lim o) ∧ cy ≤ 1 ∧ Hid (val o + 4294967296 ^ i * cy = val (a.take i) + val (b.take i)) ∧ Hp [] w wr [.obj 0 S (RowAt 99 1 pv i (limbs o) S)]) (fun _ _ v _ => a.length - (intOf v).toNat)
  case atStart => exact ⟨0, [], 0, _, _, Nat.zero_le _, rfl, rfl, by simp, hid rfl, hid Lim.nil, Nat.zero_le _, hid rfl, H⟩
  case round =>
   clear H
   obtain ⟨i, o, cy, pv, S, hi, rfl, rfl, hpv, Hol, Hlo, hcy, Hv, H⟩ := hrel
   obtain ⟨p5, c5, he, _⟩ := (H.rowo 0).form
   subst he
   subst hpv
   by_cases hin : i < a.length
   ·obtain ⟨x, hx⟩ : ∃ x, a[i]? = some x := ⟨_, List.getElem?_eq_getElem hin⟩
    have hxv := limbs_at hx
    have hxB := Hh.out.lim.at hx
    have Hx := hid hx
    clear hx
    obtain ⟨b0, off, rfl, hb0, hcell⟩ := Hh.out.rd.rng (limbs_ne (i := i) hin)
    have H1 := H.pushRng (b := b0) (off := off) hb0 (by simp) hcell
    clear H hcell
    have H := H1
    clear H1
    by_cases him : i < b.length
    ·obtain ⟨y, hy⟩ : ∃ y, b[i]? = some y := ⟨_, List.getElem?_eq_getElem him⟩
     have hyv := limbs_at hy
     have hyB := Hk.out.lim.at hy
     have Hy := hid hy
     clear hy
     obtain ⟨b1, off1, rfl, hb1, hcell1⟩ := Hk.out.rd.rng (limbs_ne (i := i) him)
     have H1 := H.pushRng (b := b1) (off := off1) hb1 (by simp) hcell1
     clear H hcell1
     have H := H1
     clear H1
     go_wp2_with (first | refine x_q H ?_ | refine x_e (ev_low rfl rfl) ?_ | refine x_e (ev_high rfl rfl) ?_ | (refine is_blt (b := .append) rfl ?_; go_loud (refine wl_rw rfl (fun K hK => c_aprS H rfl rfl rfl 0 (H.rd (b := g) (off := 0) (vs := [.int .u32 (((x : Int) + (cy : Int) + (y : Int)) % 4294967296)]) List.prefix_rfl) rfl (by intro u hu; simp only [List.mem_singleton] at hu; subst hu; rfl) (by omega) (by unfold maxLen; omega) (fun p1 c1 w1 S' hf H1 => hK _ _ ?_))); (clear hK K); (clear H; have H := H1; clear H1; (try dsimp only at H); (try clear hf)); (simp only [nrm, ↓reduceIte, Nat.reduceAdd])) | (revert H; refine x_g ?_; intro g w1 hg hf H; (try clear hf)))
     have e1 : ((x : Int) + (cy : Int) + (y : Int)) % 4294967296 = (((x + y + cy) % 4294967296 : Nat) : Int) := by omega
     rw [e1, limbs_snoc] at H
     go_roundw
     case rel => exact ⟨i + 1, o ++ [(x + y + cy) % 4294967296], (x + y + cy) / 4294967296, _, S', by omega, by go_num, by rw [show ((x : Int) + (cy : Int) + (y : Int)) / 4294967296 = (((x + y + cy) / 4294967296 : Nat) : Int) by omega], rfl, hid (by rw [List.length_append, Hol.out]; rfl), hid (Hlo.out.app (Lim.cons (Nat.mod_lt _ (by decide)) Lim.nil)), by omega, hid (by rw [plus_round Hol.out Hv.out rfl, val_take_succ Hx.out, val_take_succ Hy.out]; omega), H.sub (by repeat first | exact List.Sublist.refl _ | exact List.nil_sublist _ | apply List.Sublist.cons_cons | apply List.Sublist.cons)⟩
     case measure => (simp [intOf]; try omega)
    ·go_wp2_with (first | refine x_q H ?_ | refine x_e (ev_low rfl rfl) ?_ | refine x_e (ev_high rfl rfl) ?_ | (refine is_blt (b := .append) rfl ?_; go_loud (refine wl_rw rfl (fun K hK => c_aprS H rfl rfl rfl 0 (H.rd (b := g) (off := 0) (vs := [.int .u32 (((x : Int) + (cy : Int)) % 4294967296)]) List.prefix_rfl) rfl (by intro u hu; simp only [List.mem_singleton] at hu; subst hu; rfl) (by omega) (by unfold maxLen; omega) (fun p1 c1 w1 S' hf H1 => hK _ _ ?_))); (clear hK K); (clear H; have H := H1; clear H1; (try dsimp only at H); (try clear hf)); (simp only [nrm, ↓reduceIte, Nat.reduceAdd])) | (revert H; refine x_g ?_; intro g w1 hg hf H; (try clear hf)))
     have e1 : ((x : Int) + (cy : Int)) % 4294967296 = (((x + 0 + cy) % 4294967296 : Nat) : Int) := by omega
     rw [e1, limbs_snoc] at H
     go_roundw
     case rel => exact ⟨i + 1, o ++ [(x + 0 + cy) % 4294967296], (x + 0 + cy) / 4294967296, _, S', by omega, by go_num, by rw [show ((x : Int) + (cy : Int)) / 4294967296 = (((x + 0 + cy) / 4294967296 : Nat) : Int) by omega], rfl, hid (by rw [List.length_append, Hol.out]; rfl), hid (Hlo.out.app (Lim.cons (Nat.mod_lt _ (by decide)) Lim.nil)), by omega, hid (by rw [plus_round Hol.out Hv.out rfl, val_take_succ Hx.out, take_over (by omega)]; omega), H.sub (by repeat first | exact List.Sublist.refl _ | exact List.nil_sublist _ | apply List.Sublist.cons_cons | apply List.Sublist.cons)⟩
     case measure => (simp [intOf]; try omega)
   ·have e : i = a.length := by omega
    have Hi := hid e
    have HV : Hid (val (o ++ [cy]) = val a + val b) := hid (by
     have := Hv.out
     rw [e, List.take_of_length_le (Nat.le_refl _), List.take_of_length_le (by omega)] at this
     rw [val_snoc, Hol.out, e, this])
    have Hl1 : Hid (Lim (o ++ [cy])) := hid (Hlo.out.app (Lim.cons (by omega) Lim.nil))
    clear e
    go_wp2_with (first | refine x_q H ?_ | (refine is_blt (b := .append) rfl ?_; go_loud (refine wl_rw rfl (fun K hK => c_aprS H rfl rfl rfl 0 (H.rd (b := g) (off := 0) (vs := [.int .u32 ((cy : Int))]) List.prefix_rfl) rfl (by intro u hu; simp only [List.mem_singleton] at hu; subst hu; rfl) (by omega) (by unfold maxLen; omega) (fun p1 c1 w1 S' hf H1 => hK _ _ ?_))); (clear hK K); (clear H; have H := H1; clear H1; (try dsimp only at H); (try clear hf)); (simp only [nrm, ↓reduceIte, Nat.reduceAdd])) | (revert H; refine x_g ?_; intro g w1 hg hf H; (try clear hf)))
    rw [limbs_snoc] at H
    obtain ⟨p6, c6, e6, e7, hL⟩ := LR.of_row (H.rowo 0) Hl1.out
    injection e6 with e61 e62 e63
    subst e61 e63
    have HL := hid hL
    refine Calls.mono (trim_any (o ++ [cy]) e7 HL.out) ?_
    rintro e w1 ⟨rfl, hF⟩
    have HL2 := hid (hL.fr hF).trim
    have H1 := H.step hF (by simp)
    clear H hF hL HL e7
    have H := H1
    clear H1
    go_wp2_with fail
    go_ret
    rw [HV.out] at HL2
    exact ⟨_, _, by rw [HV.out]; rfl, H.fr, HL2.out⟩
 ·have hmn2 : a.length ≤ b.length := by omega
  go_enter Tryz.func81, Tryz.ntmps81
  go_wp2_with (first | refine x_q H ?_ | (revert H; refine x_g ?_; intro g w1 hg hf H; (try clear hf)))
  rw [show ((b.length : Int) + 1).toNat = b.length + 1 by omega] at H
  have H1 := H.blkObj 0 (Q := RowAt 99 1 (.slice (some ⟨g, 0, none⟩) 0 (b.length + 1)) 0 [] [g]) ⟨rfl, .inr ⟨g, b.length + 1, (List.replicate (b.length + 1) [Value.int .u32 0]).flatten, rfl, rfl, Nat.zero_le _, by unfold maxLen; omega, by rw [List.nil_append, zeros_len, Nat.mul_one], H.at g⟩⟩
  clear H hg
  have H := H1
  clear H1
  go_loopw [5, 6, 23] (fun s5 s6 s23 wr => ∃ (i : Nat) (o : List Nat) (cy : Nat) (pv : Value) (S : List Nat), i ≤ b.length ∧ s23 = .int .i64 i ∧ s6 = .int .u64 cy ∧ s5 = pv ∧ Hid (o.length = i) ∧ Hid (Lim o) ∧ cy ≤ 1 ∧ Hid (val o + 4294967296 ^ i * cy = val (b.take i) + val (a.take i)) ∧ Hp [] w wr [.obj 0 S (RowAt 99 1 pv i (limbs o) S)]) (fun _ _ v _ => b.length - (intOf v).toNat)
  case atStart => exact ⟨0, [], 0, _, _, Nat.zero_le _, rfl, rfl, by simp, hid rfl, hid Lim.nil, Nat.zero_le _, hid rfl, H⟩
  case round =>
   clear H
   obtain ⟨i, o, cy, pv, S, hi, rfl, rfl, hpv, Hol, Hlo, hcy, Hv, H⟩ := hrel
   obtain ⟨p5, c5, he, _⟩ := (H.rowo 0).form
   subst he
   subst hpv
   by_cases hin : i < b.length
   ·obtain ⟨x, hx⟩ : ∃ x, b[i]? = some x := ⟨_, List.getElem?_eq_getElem hin⟩
    have hxv := limbs_at hx
    have hxB := Hk.out.lim.at hx
    have Hx := hid hx
    clear hx
    obtain ⟨b0, off, rfl, hb0, hcell⟩ := Hk.out.rd.rng (limbs_ne (i := i) hin)
    have H1 := H.pushRng (b := b0) (off := off) hb0 (by simp) hcell
    clear H hcell
    have H := H1
    clear H1
    by_cases him : i < a.length
    ·obtain ⟨y, hy⟩ : ∃ y, a[i]? = some y := ⟨_, List.getElem?_eq_getElem him⟩
     have hyv := limbs_at hy
     have hyB := Hh.out.lim.at hy
     have Hy := hid hy
     clear hy
     obtain ⟨b1, off1, rfl, hb1, hcell1⟩ := Hh.out.rd.rng (limbs_ne (i := i) him)
     have H1 := H.pushRng (b := b1) (off := off1) hb1 (by simp) hcell1
     clear H hcell1
     have H := H1
     clear H1
     go_wp2_with (first | refine x_q H ?_ | refine x_e (ev_low rfl rfl) ?_ | refine x_e (ev_high rfl rfl) ?_ | (refine is_blt (b := .append) rfl ?_; go_loud (refine wl_rw rfl (fun K hK => c_aprS H rfl rfl rfl 0 (H.rd (b := g) (off := 0) (vs := [.int .u32 (((x : Int) + (cy : Int) + (y : Int)) % 4294967296)]) List.prefix_rfl) rfl (by intro u hu; simp only [List.mem_singleton] at hu; subst hu; rfl) (by omega) (by unfold maxLen; omega) (fun p1 c1 w1 S' hf H1 => hK _ _ ?_))); (clear hK K); (clear H; have H := H1; clear H1; (try dsimp only at H); (try clear hf)); (simp only [nrm, ↓reduceIte, Nat.reduceAdd])) | (revert H; refine x_g ?_; intro g w1 hg hf H; (try clear hf)))
     have e1 : ((x : Int) + (cy : Int) + (y : Int)) % 4294967296 = (((x + y + cy) % 4294967296 : Nat) : Int) := by omega
     rw [e1, limbs_snoc] at H
     go_roundw
     case rel => exact ⟨i + 1, o ++ [(x + y + cy) % 4294967296], (x + y + cy) / 4294967296, _, S', by omega, by go_num, by rw [show ((x : Int) + (cy : Int) + (y : Int)) / 4294967296 = (((x + y + cy) / 4294967296 : Nat) : Int) by omega], rfl, hid (by rw [List.length_append, Hol.out]; rfl), hid (Hlo.out.app (Lim.cons (Nat.mod_lt _ (by decide)) Lim.nil)), by omega, hid (by rw [plus_round Hol.out Hv.out rfl, val_take_succ Hx.out, val_take_succ Hy.out]; omega), H.sub (by repeat first | exact List.Sublist.refl _ | exact List.nil_sublist _ | apply List.Sublist.cons_cons | apply List.Sublist.cons)⟩
     case measure => (simp [intOf]; try omega)
    ·go_wp2_with (first | refine x_q H ?_ | refine x_e (ev_low rfl rfl) ?_ | refine x_e (ev_high rfl rfl) ?_ | (refine is_blt (b := .append) rfl ?_; go_loud (refine wl_rw rfl (fun K hK => c_aprS H rfl rfl rfl 0 (H.rd (b := g) (off := 0) (vs := [.int .u32 (((x : Int) + (cy : Int)) % 4294967296)]) List.prefix_rfl) rfl (by intro u hu; simp only [List.mem_singleton] at hu; subst hu; rfl) (by omega) (by unfold maxLen; omega) (fun p1 c1 w1 S' hf H1 => hK _ _ ?_))); (clear hK K); (clear H; have H := H1; clear H1; (try dsimp only at H); (try clear hf)); (simp only [nrm, ↓reduceIte, Nat.reduceAdd])) | (revert H; refine x_g ?_; intro g w1 hg hf H; (try clear hf)))
     have e1 : ((x : Int) + (cy : Int)) % 4294967296 = (((x + 0 + cy) % 4294967296 : Nat) : Int) := by omega
     rw [e1, limbs_snoc] at H
     go_roundw
     case rel => exact ⟨i + 1, o ++ [(x + 0 + cy) % 4294967296], (x + 0 + cy) / 4294967296, _, S', by omega, by go_num, by rw [show ((x : Int) + (cy : Int)) / 4294967296 = (((x + 0 + cy) / 4294967296 : Nat) : Int) by omega], rfl, hid (by rw [List.length_append, Hol.out]; rfl), hid (Hlo.out.app (Lim.cons (Nat.mod_lt _ (by decide)) Lim.nil)), by omega, hid (by rw [plus_round Hol.out Hv.out rfl, val_take_succ Hx.out, take_over (by omega)]; omega), H.sub (by repeat first | exact List.Sublist.refl _ | exact List.nil_sublist _ | apply List.Sublist.cons_cons | apply List.Sublist.cons)⟩
     case measure => (simp [intOf]; try omega)
   ·have e : i = b.length := by omega
    have Hi := hid e
    have HV : Hid (val (o ++ [cy]) = val a + val b) := hid (by
     have := Hv.out
     rw [e, List.take_of_length_le (Nat.le_refl _), List.take_of_length_le (by omega)] at this
     rw [val_snoc, Hol.out, e, this]; exact Nat.add_comm _ _)
    have Hl1 : Hid (Lim (o ++ [cy])) := hid (Hlo.out.app (Lim.cons (by omega) Lim.nil))
    clear e
    go_wp2_with (first | refine x_q H ?_ | (refine is_blt (b := .append) rfl ?_; go_loud (refine wl_rw rfl (fun K hK => c_aprS H rfl rfl rfl 0 (H.rd (b := g) (off := 0) (vs := [.int .u32 ((cy : Int))]) List.prefix_rfl) rfl (by intro u hu; simp only [List.mem_singleton] at hu; subst hu; rfl) (by omega) (by unfold maxLen; omega) (fun p1 c1 w1 S' hf H1 => hK _ _ ?_))); (clear hK K); (clear H; have H := H1; clear H1; (try dsimp only at H); (try clear hf)); (simp only [nrm, ↓reduceIte, Nat.reduceAdd])) | (revert H; refine x_g ?_; intro g w1 hg hf H; (try clear hf)))
    rw [limbs_snoc] at H
    obtain ⟨p6, c6, e6, e7, hL⟩ := LR.of_row (H.rowo 0) Hl1.out
    injection e6 with e61 e62 e63
    subst e61 e63
    have HL := hid hL
    refine Calls.mono (trim_any (o ++ [cy]) e7 HL.out) ?_
    rintro e w1 ⟨rfl, hF⟩
    have HL2 := hid (hL.fr hF).trim
    have H1 := H.step hF (by simp)
    clear H hF hL HL e7
    have H := H1
    clear H1
    go_wp2_with fail
    go_ret
    rw [HV.out] at HL2
    exact ⟨_, _, by rw [HV.out]; rfl, H.fr, HL2.out⟩
end Go.Proofs.YthbeeeclgbpopaaGreatDoor
