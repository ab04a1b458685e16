import Derived.Test.YtbiohhmpclnpgaaGreatDoorXIw19
import Derived.Deep.DeepCutAuto
import Derived.Deep.CutBlock
import Derived.Test.YtbiohhmpclnpgaaGreatDoorXSx
import Derived.Laws.ResultCell
namespace Go.Proofs.YtbiohhmpclnpgaaGreatDoor
open Go.RowKit
set_option linter.unusedSimpArgs false
set_option linter.unusedVariables false
set_option maxHeartbeats 4000000
set_option maxRecDepth 100000
set_option maxHeartbeats 8000000 in
theorem length_any {w : World} {p : Option Addr} {n c : Nat} (A : Nat) (hl : (digs A).length = n) (hn : n ≤ 2000000) (h : LR w p c (digs A)) :
  Calls Tryz.prog 141 #[.slice p n c] w fun e w' => e = .returned (.int .i64 (bl A : Int)) ∧ Fr [] w w' := by
 have Hh := hid h
 have H := Hp.start [] w
 obtain ⟨hlc, hc⟩ := h.clen
 rw [hl] at hlc
 by_cases h0 : n ≤ 0
 ·have e : A = 0 := digs_zero_len (by omega)
  have HB : Hid (bl A = 0) := hid (by rw [e]; rfl)
  clear h hl e
  go_enter Tryz.func141, Tryz.ntmps141
  go_wp2_with (first | refine x_q H ?_ | refine x_cm (fun h => ?_) (fun h => ?_) | (revert H; refine x_g ?_; intro g w1 hg hf H; (try clear hf)) | (revert H; refine x_s ?_; intro w1 hf H; (try clear hf)))
  go_ret
  exact ⟨by rw [HB.out]; rfl, H.fr⟩
 ·obtain ⟨k, hk⟩ : ∃ k, n = k + 1 := ⟨n - 1, by omega⟩
  obtain ⟨x, hx⟩ : ∃ x, (digs A)[k]? = some x := ⟨_, List.getElem?_eq_getElem (by omega)⟩
  have hxv := limbs_at hx
  have hxB := h.lim.at hx
  obtain ⟨b0, off, rfl, hb0, hcell⟩ := h.rd.rng (limbs_ne (i := k) (by omega))
  have H1 := H.pushRng (b := b0) (off := off) hb0 (by simp) hcell
  clear H hcell
  have H := H1
  clear H1
  have HB : Hid (bl A = 32 * (n - 1) + bl x) := hid (by
   rw [show n - 1 = k by omega]
   have h2 := bl_digs (by rw [hl, hk]) (digs_lim A) hx (digs_last A x (by rw [hl, show n - 1 = k by omega]; exact hx))
   rwa [val_digs] at h2)
  have hb32 := bl_32 hxB
  have hn1 : 1 ≤ n := by omega
  rw [show k = ((n : Int) - 1).toNat by omega] at hxv
  clear hx h hl h0 hk
  go_enter Tryz.func141, Tryz.ntmps141
  go_wp2_with (first | refine x_q H ?_ | refine x_cm (fun h => ?_) (fun h => ?_) | (revert H; refine x_g ?_; intro g w1 hg hf H; (try clear hf)) | (revert H; refine x_s ?_; intro w1 hf H; (try clear hf)))
  (refine x_c H (len32_any _ hxB) ?_; clear H; rintro e w1 ⟨rfl, hF⟩ H)
  go_wp2_with (first | refine x_q H ?_ | refine x_cm (fun h => ?_) (fun h => ?_) | (revert H; refine x_g ?_; intro g w1 hg hf H; (try clear hf)) | (revert H; refine x_s ?_; intro w1 hf H; (try clear hf)))
  go_ret
  exact ⟨by rw [HB.out]; go_num, H.fr⟩
end Go.Proofs.YtbiohhmpclnpgaaGreatDoor
namespace Go.Proofs.YtbiohhmpclnpgaaGreatDoor
open Go.RowKit
set_option linter.unusedSimpArgs false
set_option linter.unusedVariables false
set_option maxHeartbeats 4000000
set_option maxRecDepth 100000
set_option maxHeartbeats 8000000 in
theorem divide_less {w : World} {p q : Option Addr} {n m c d : Nat} (A B : Nat) (hn : (digs A).length = n) (hm : (digs B).length = m) (hn0 : n ≤ 1000000) (hlt : A < B) (h : LR w p c (digs A)) (k : LR w q d (digs B)) :
  Calls Tryz.prog 142 #[.slice p n c, .slice q m d] w fun e w' => ∃ p1 c1 p2 c2, e = .returned (.tuple #[.slice p1 (digs (A / B)).length c1, .slice p2 (digs (A % B)).length c2]) ∧ Fr [] w w' ∧ LR w' p1 c1 (digs (A / B)) ∧ LR w' p2 c2 (digs (A % B)) := by
 have Hh := hid h
 have Hk := hid k
 have Hn := hid hn
 have Hm := hid hm
 have hc := cmpZ_neg hlt
 have HQ := hid (Nat.div_eq_of_lt hlt)
 have HR := hid (Nat.mod_eq_of_lt hlt)
 clear h k hn hm hlt
 have H := Hp.start [] w
 go_enter Tryz.func142, Tryz.ntmps142
 go_wp2_with (first | refine x_q H ?_ | refine x_cm (fun h => ?_) (fun h => ?_) | (revert H; refine x_g ?_; intro g w1 hg hf H; (try (have hfk := hid hf; clear hf))) | (revert H; refine x_s ?_; intro w1 hf H; (try (have hfk := hid hf; clear hf))))
 (refine x_c H (compare_any A B Hn.out Hm.out (Hh.out.fr H.fr) (Hk.out.fr H.fr)) ?_; clear H; rintro e w1 ⟨rfl, hF⟩ H)
 generalize cmpZ A B = z at hc ⊢
 go_wp2_with (first | refine x_q H ?_ | refine x_cm (fun h => ?_) (fun h => ?_) | (revert H; refine x_g ?_; intro g w1 hg hf H; (try (have hfk := hid hf; clear hf))) | (revert H; refine x_s ?_; intro w1 hf H; (try (have hfk := hid hf; clear hf))))
 refine Calls.mono (clone_any (digs A) Hn.out hn0 (Hh.out.fr H.fr)) ?_
 rintro e w1 ⟨p2, c2, rfl, hF, hL⟩
 have HL := hid hL
 have H1 := H.step hF (by simp)
 clear H hF hL
 have H := H1
 clear H1
 go_wp2_with (first | refine x_q H ?_ | refine x_cm (fun h => ?_) (fun h => ?_) | (revert H; refine x_g ?_; intro g w1 hg hf H; (try (have hfk := hid hf; clear hf))) | (revert H; refine x_s ?_; intro w1 hf H; (try (have hfk := hid hf; clear hf))))
 refine bodyPost_ret (results_tmp2 rfl _ _ _) rfl ?_
 rw [HQ.out, HR.out, digs_zero, Hn.out]
 exact ⟨none, 0, p2, c2, rfl, H.fr, LR.zero _, HL.out⟩
set_option maxHeartbeats 8000000 in
theorem divide_one {w : World} {p q : Option Addr} {n m c d : Nat} (A B : Nat) (hn : (digs A).length = n) (hm : (digs B).length = m) (hn0 : n ≤ 1000000) (hle : B ≤ A) (hm1 : m = 1) (h : LR w p c (digs A)) (k : LR w q d (digs B)) :
  Calls Tryz.prog 142 #[.slice p n c, .slice q m d] w fun e w' => ∃ p1 c1 p2 c2, e = .returned (.tuple #[.slice p1 (digs (A / B)).length c1, .slice p2 (digs (A % B)).length c2]) ∧ Fr [] w w' ∧ LR w' p1 c1 (digs (A / B)) ∧ LR w' p2 c2 (digs (A % B)) := by
 obtain ⟨x, hx⟩ : ∃ x, (digs B)[0]? = some x := ⟨_, List.getElem?_eq_getElem (by omega)⟩
 have hxB := k.lim.at hx
 have hBx : B = x := by
  have h1 := digit_of k.lim hx
  rw [val_digs, Nat.pow_zero, Nat.div_one] at h1
  have h2 := digs_lt B
  rw [hm, hm1, Nat.pow_one] at h2
  omega
 have hx0 : 0 < x := by
  have := digs_last B x (by rw [hm, hm1]; exact hx)
  omega
 have hxv := limbs_at hx
 obtain ⟨b0, off, rfl, hb0, hcell⟩ := k.rd.rng (limbs_ne (i := 0) (by omega))
 have Hh := hid h
 have Hk := hid k
 have Hn := hid hn
 have Hm := hid hm
 have HB := hid hBx
 have hc := cmpZ_nonneg hle
 have hm2 : m ≤ 1 := by omega
 have hm3 : 1 ≤ m := by omega
 obtain ⟨hlc, hcc⟩ := k.clen
 rw [hm] at hlc
 have H := (Hp.start [] w).pushRng (b := b0) (off := off) hb0 (by simp) hcell
 clear h k hn hm hle hx hBx hcell hm1
 go_enter Tryz.func142, Tryz.ntmps142
 go_wp2_with (first | refine x_q H ?_ | refine x_cm (fun h => ?_) (fun h => ?_) | (revert H; refine x_g ?_; intro g w1 hg hf H; (try (have hfk := hid hf; clear hf))) | (revert H; refine x_s ?_; intro w1 hf H; (try (have hfk := hid hf; clear hf))))
 (refine x_c H (compare_any A B Hn.out Hm.out (Hh.out.fr H.fr) (Hk.out.fr H.fr)) ?_; clear H; rintro e w1 ⟨rfl, hF⟩ H)
 generalize cmpZ A B = z at hc ⊢
 go_wp2_with (first | refine x_q H ?_ | refine x_cm (fun h => ?_) (fun h => ?_) | (revert H; refine x_g ?_; intro g w1 hg hf H; (try (have hfk := hid hf; clear hf))) | (revert H; refine x_s ?_; intro w1 hf H; (try (have hfk := hid hf; clear hf))))
 refine Calls.mono (short_any (digs A) x Hn.out hn0 (Hh.out.fr H.fr) hx0 hxB) ?_
 rintro e w1 ⟨p1, c1, rfl, hF, hL⟩
 rw [val_digs] at hL ⊢
 have HL := hid hL
 have H1 := H.step hF (by simp)
 clear H hF hL
 have H := H1
 clear H1
 go_wp2_with (first | refine x_q H ?_ | refine x_cm (fun h => ?_) (fun h => ?_) | (refine is_buildSlice rfl ?_; refine wl_rw rfl (fun K hK => c_sN H rfl (by repeat first | exact .nil _ | apply Parts.tmp (by rfl) (by rfl) | apply Parts.con (by rfl)) rfl (by intro c hc; simp only [List.mem_cons, List.not_mem_nil, or_false] at hc; (try (rcases hc with rfl | rfl | rfl | rfl | rfl | rfl | rfl | rfl <;> rfl))) (by decide) (by decide) (fun g w1 hg hf H1 => hK _ _ ?_)); (clear hK K); (clear H; have H := H1; clear H1; (try dsimp only at H); (try (have hfk := hid hf; clear hf))); (simp only [nrm, ↓reduceIte, Nat.reduceAdd])) | (revert H; refine x_g ?_; intro g w1 hg hf H; (try (have hfk := hid hf; clear hf))) | (revert H; refine x_s ?_; intro w1 hf H; (try (have hfk := hid hf; clear hf))))
 have hxr : A % x < x := Nat.mod_lt _ hx0
 have hlr : Lim [A % x] := Lim.cons (by omega) Lim.nil
 have hL2 : LR _ (some ⟨g, 0, none⟩) 1 [A % x] := LR.of_blk (pad := []) (by have := H.at g; rw [show ((A : Int) % (x : Int)) = ((A % x : Nat) : Int) by rw [Int.natCast_emod]] at this; simpa [limbs] using this) hlr (by simp) (by unfold maxLen; omega)
 have HL2 := hid hL2
 have HL1 := hid (HL.out.fr hfk.out)
 refine Calls.mono (trim_any [A % x] rfl hL2) ?_
 rintro e w1 ⟨rfl, hF⟩
 have HL3 := hid (HL2.out.fr hF).trim
 have HL4 := hid (HL1.out.fr hF)
 have H1 := H.step hF (by simp)
 clear H hF hL2
 have H := H1
 clear H1
 have HV : Hid (val [A % x] = A % x) := hid (by simp [val])
 rw [HV.out] at HL3 ⊢
 go_wp2_with (first | refine x_q H ?_ | refine x_cm (fun h => ?_) (fun h => ?_) | (revert H; refine x_g ?_; intro g w1 hg hf H; (try (have hfk := hid hf; clear hf))) | (revert H; refine x_s ?_; intro w1 hf H; (try (have hfk := hid hf; clear hf))))
 refine bodyPost_ret (results_tmp2 rfl _ _ _) rfl ?_
 rw [HB.out]
 exact ⟨p1, c1, _, _, rfl, H.fr, HL4.out, HL3.out⟩
end Go.Proofs.YtbiohhmpclnpgaaGreatDoor
namespace Go.Proofs.YtbiohhmpclnpgaaGreatDoor
open Go.RowKit
set_option linter.unusedSimpArgs false
set_option linter.unusedVariables false
theorem norm_top {x : Nat} (h0 : x ≠ 0) (hx : x < 4294967296) : 2147483648 ≤ x * 2 ^ (32 - bl x) ∧ x * 2 ^ (32 - bl x) < 4294967296 := by
 obtain ⟨a1, a2⟩ := bl_ge h0
 have a3 := bl_lt x
 have a4 := bl_32 hx
 have e1 : 2 ^ (bl x - 1) * 2 ^ (32 - bl x) = 2147483648 := by
  rw [← Nat.pow_add, show bl x - 1 + (32 - bl x) = 31 by omega]
 have e2 : 2 ^ bl x * 2 ^ (32 - bl x) = 4294967296 := by
  rw [← Nat.pow_add, show bl x + (32 - bl x) = 32 by omega]
 constructor
 ·rw [← e1]; exact Nat.mul_le_mul_right _ a1
 ·rw [← e2]; exact Nat.mul_lt_mul_of_pos_right a3 (Nat.two_pow_pos _)
theorem norm_len {B n x : Nat} (hn : (digs B).length = n + 1) (hx : (digs B)[n]? = some x) : (digs (B * 2 ^ (32 - bl x))).length = n + 1 := by
 have hx0 := digs_last B x (by rw [hn, Nat.add_sub_cancel]; exact hx)
 have hxB := (digs_lim B).at hx
 obtain ⟨h1, h2⟩ := norm_top hx0 hxB
 have hv := val_split (digs B) n
 rw [Nat.min_eq_left (by omega), val_digs, val_drop hx, List.drop_eq_nil_of_le (by omega), val_nil] at hv
 have ht := val_lt ((digs_lim B).take n)
 rw [List.length_take, Nat.min_eq_left (by omega)] at ht
 have a3 := bl_lt x
 have a4 := bl_32 hxB
 have hs := Nat.two_pow_pos (32 - bl x)
 generalize val ((digs B).take n) = T at *
 have hP : 0 < 4294967296 ^ n := Nat.pow_pos (by decide)
 have e1 : 4294967296 ^ n * (x + 1) ≤ 4294967296 ^ n * 2 ^ bl x := Nat.mul_le_mul_left _ a3
 rw [Nat.mul_add, Nat.mul_one] at e1
 have e0 : x + 4294967296 * 0 = x := by omega
 rw [e0] at hv
 have hB : B < 4294967296 ^ n * 2 ^ bl x := by omega
 apply Nat.le_antisymm
 ·apply digs_len_of
  have e2 : B * 2 ^ (32 - bl x) < 4294967296 ^ n * 2 ^ bl x * 2 ^ (32 - bl x) := Nat.mul_lt_mul_of_pos_right hB hs
  rw [Nat.mul_assoc, ← Nat.pow_add, show bl x + (32 - bl x) = 32 by omega] at e2
  rw [Nat.pow_succ]
  exact e2
 ·apply Classical.byContradiction
  intro hlt
  have e3 := digs_lt (B * 2 ^ (32 - bl x))
  have e4 : 4294967296 ^ (digs (B * 2 ^ (32 - bl x))).length ≤ 4294967296 ^ n := Nat.pow_le_pow_right (by decide) (by omega)
  have e5 : 4294967296 ^ n * 1 ≤ 4294967296 ^ n * x := Nat.mul_le_mul_left _ (by omega)
  have e6 : B * 1 ≤ B * 2 ^ (32 - bl x) := Nat.mul_le_mul_left _ hs
  omega
end Go.Proofs.YtbiohhmpclnpgaaGreatDoor
namespace Go.Proofs.YtbiohhmpclnpgaaGreatDoor
open Go.RowKit
set_option linter.unusedSimpArgs false
set_option linter.unusedVariables false
theorem long_round {V Q R u S : Nat} (hS : S = u + 4294967296 * R) : u + 4294967296 * (V * Q + R) = V * (S / V + 4294967296 * Q) + S % V := by
 have h1 := Nat.div_add_mod S V
 rw [Nat.mul_add, Nat.mul_add, Nat.mul_left_comm V]
 omega
theorem long_lt {V R u : Nat} (hu : u < 4294967296) (hR : R < V) : u + 4294967296 * R < 4294967296 * V := by omega
theorem long_end {A B s Q R : Nat} (hB : 0 < B) (h : A * 2 ^ s = B * 2 ^ s * Q + R) (hR : R < B * 2 ^ s) : Q = A / B ∧ R / 2 ^ s = A % B := by
 have hs := Nat.two_pow_pos s
 have hV : 0 < B * 2 ^ s := Nat.mul_pos hB hs
 have h1 : A * 2 ^ s / (B * 2 ^ s) = Q := by
  rw [h, Nat.mul_add_div hV, Nat.div_eq_of_lt hR, Nat.add_zero]
 have h2 : A * 2 ^ s % (B * 2 ^ s) = R := by
  rw [h, Nat.mul_add_mod, Nat.mod_eq_of_lt hR]
 refine ⟨?_, ?_⟩
 ·rw [← h1, scaled_div hs]
 ·rw [← h2, scaled_mod hs]
theorem zeros_tail {l : List Nat} (h : ∀ (k x : Nat), l[k]? = some x → x = 0) : val l = 0 := by
 induction l with
 | nil => rfl
 | cons x l ih =>
  have h0 := h 0 x rfl
  have := ih (fun k y hk => h (k + 1) y hk)
  simp only [val, this, h0]
theorem norm_ge {B n x : Nat} (hn : (digs B).length = n + 1) (hx : (digs B)[n]? = some x) : 2147483648 * 4294967296 ^ n ≤ B * 2 ^ (32 - bl x) ∧ 32 - bl x ≤ 31 := by
 have hx0 := digs_last B x (by rw [hn, Nat.add_sub_cancel]; exact hx)
 obtain ⟨h1, _⟩ := norm_top hx0 ((digs_lim B).at hx)
 have hv := val_split (digs B) n
 rw [Nat.min_eq_left (by omega), val_digs, val_drop hx, List.drop_eq_nil_of_le (by omega), val_nil] at hv
 have e0 : x + 4294967296 * 0 = x := by omega
 rw [e0] at hv
 refine ⟨?_, by have := (bl_ge hx0).2; omega⟩
 have h2 : 4294967296 ^ n * x ≤ B := by omega
 have h3 : 4294967296 ^ n * x * 2 ^ (32 - bl x) ≤ B * 2 ^ (32 - bl x) := Nat.mul_le_mul_right _ h2
 have h4 : 4294967296 ^ n * 2147483648 ≤ 4294967296 ^ n * (x * 2 ^ (32 - bl x)) := Nat.mul_le_mul_left _ h1
 rw [← Nat.mul_assoc] at h4
 rw [Nat.mul_comm 2147483648]
 omega
theorem long_start {A V n mm s : Nat} (hA : A < 4294967296 ^ n) (hs : s ≤ 31) (hV : 2147483648 * 4294967296 ^ mm ≤ V) (hmn : mm ≤ n) : A * 2 ^ s < V * 4294967296 ^ (n - mm) := by
 have h1 : 2 ^ s ≤ 2 ^ 31 := Nat.pow_le_pow_right (by decide) hs
 have h2 : A * 2 ^ s < 4294967296 ^ n * 2 ^ s := Nat.mul_lt_mul_of_pos_right hA (Nat.two_pow_pos s)
 have h3 : 4294967296 ^ n * 2 ^ s ≤ 4294967296 ^ n * 2 ^ 31 := Nat.mul_le_mul_left _ h1
 have h4 : 2147483648 * 4294967296 ^ mm * 4294967296 ^ (n - mm) ≤ V * 4294967296 ^ (n - mm) := Nat.mul_le_mul_right _ hV
 rw [Nat.mul_assoc, ← Nat.pow_add, show mm + (n - mm) = n by omega, Nat.mul_comm] at h4
 exact Nat.lt_of_lt_of_le (Nat.lt_of_lt_of_le h2 h3) h4
end Go.Proofs.YtbiohhmpclnpgaaGreatDoor
namespace Go.Proofs.YtbiohhmpclnpgaaGreatDoor
open Go.RowKit
set_option linter.unusedSimpArgs false
set_option linter.unusedVariables false
theorem Hp.wrote {T : List Nat} {w0 w w' : World} {g g0 : Nat} {cs cs0 cs1 : List Value} {t t0 : TypeId} (H : Hp T w0 w [.blk g cs t, .blk g0 cs0 t0]) (hF : Fr [g0] w w') (hg : w'.heap[g0]? = some (.cells cs1.toArray t0 (0, 0))) : Hp T w0 w' [.blk g cs t, .blk g0 cs1 t0] := by
 have hn := H.nodup
 simp only [List.flatMap_cons, List.flatMap_nil, Ent.own, List.cons_append, List.nil_append, List.append_nil, List.nodup_cons, List.mem_cons, List.not_mem_nil, or_false] at hn
 have a1 := H.ok _ (.head _)
 have a2 := H.ok _ (.tail _ (.head _))
 refine ⟨H.fr.andThen hF (fun x hx => ?_), fun e he => ?_, by simpa [List.flatMap_cons, Ent.own] using hn.1⟩
 ·simp only [List.mem_singleton] at hx; subst hx; exact a2.2
 ·simp only [List.mem_cons, List.not_mem_nil, or_false] at he
  rcases he with rfl | rfl
  ·exact ⟨hF.get a1.1 (by simpa using hn.1), a1.2⟩
  ·exact ⟨hg, a2.2⟩
end Go.Proofs.YtbiohhmpclnpgaaGreatDoor
namespace Go.Proofs.YtbiohhmpclnpgaaGreatDoor
open Go.RowKit
set_option linter.unusedSimpArgs false
set_option linter.unusedVariables false
structure Long (V m n : Nat) (U : List Nat) (i : Nat) (l o : List Nat) : Prop where
 hl : l.length = n + 1
 lim : Lim l
 ol : o.length = n + 1 - m
 olim : Lim o
 tk : l.take i = U.take i
 z : ∀ (k x : Nat), i + m ≤ k → l[k]? = some x → x = 0
 v : val (U.drop i) = V * val (o.drop i) + val (l.drop i)
 lt : val (l.drop i) < V
theorem long_ty {U : List Nat} {m n V : Nat} (hU : U.length = n + 1) (lU : Lim U) (hm : m ≤ n + 1) (hlt : val (U.drop (n + 1 - m)) < V) : Long V m n U (n + 1 - m) U (List.replicate (n + 1 - m) 0) where
 hl := hU
 lim := lU
 ol := List.length_replicate
 olim := Lim.zeros _
 tk := rfl
 z := fun k x hk hx => by
  have := (List.getElem?_eq_some_iff.1 hx).1
  omega
 v := by
  have e : (List.replicate (n + 1 - m) 0).drop (n + 1 - m) = [] := List.drop_eq_nil_of_le (by simp)
  rw [e, val_nil, Nat.mul_zero, Nat.zero_add]
 lt := hlt
theorem val_zero_of {l : List Nat} {i : Nat} (h : ∀ (k x : Nat), i ≤ k → l[k]? = some x → x = 0) : val (l.drop i) = 0 :=
 zeros_tail (fun k x hk => h (i + k) x (Nat.le_add_right _ _) (by rwa [List.getElem?_drop] at hk))
theorem Long.cut {V m n j : Nat} {U l o : List Nat} (h : Long V m n U (j + 1) l o) (hj : j + m ≤ n) :
  l = l.take j ++ (l.drop j).take (m + 1) ++ l.drop (j + (m + 1)) ∧ (l.take j).length = j ∧ ((l.drop j).take (m + 1)).length = m + 1 ∧ Lim ((l.drop j).take (m + 1)) ∧ val ((l.drop j).take (m + 1)) = val (l.drop j) ∧ val ((l.drop j).take (m + 1)) < 4294967296 * V := by
 have hl := h.hl
 have h1 : ((l.drop j).take (m + 1)).length = m + 1 := by rw [List.length_take, List.length_drop]; omega
 have h2 : val ((l.drop j).take (m + 1)) = val (l.drop j) := by
  have e := val_split (l.drop j) (m + 1)
  have hz : val (l.drop (j + (m + 1))) = 0 := val_zero_of (fun k x hk hx => h.z k x (by omega) hx)
  rw [List.drop_drop, hz, Nat.mul_zero, Nat.add_zero] at e
  exact e.symm
 refine ⟨?_, by rw [List.length_take]; omega, h1, (h.lim.drop _).take _, h2, ?_⟩
 ·rw [← List.drop_drop, List.append_assoc, List.take_append_drop, List.take_append_drop]
 ·rw [h2]
  obtain ⟨x, hx⟩ : ∃ x, l[j]? = some x := ⟨_, List.getElem?_eq_getElem (by omega)⟩
  rw [val_drop hx]
  exact long_lt (h.lim.at hx) h.lt
theorem Long.next {V m n j : Nat} {U l o sg : List Nat} (h : Long V m n U (j + 1) l o) (hj : j + m ≤ n) (hV : V ≤ 4294967296 ^ m) (hs : sg.length = m + 1) (ls : Lim sg) (hv : val sg = val ((l.drop j).take (m + 1)) % V) : Long V m n U j (l.take j ++ sg ++ l.drop (j + (m + 1))) (o.set j (val ((l.drop j).take (m + 1)) / V)) := by
 obtain ⟨hcut, c1, c2, c3, c4, c5⟩ := h.cut hj
 have hl := h.hl
 have hol := h.ol
 have hVp : 0 < V := by
  rcases Nat.eq_zero_or_pos V with e | e
  ·rw [e] at c5; omega
  ·exact e
 obtain ⟨x, hx⟩ : ∃ x, l[j]? = some x := ⟨_, List.getElem?_eq_getElem (by omega)⟩
 have hUj : U[j]? = some x := by
  have e := congrArg (·[j]?) h.tk
  simp only [List.getElem?_take] at e
  rw [if_pos (by omega), if_pos (by omega)] at e
  rw [← e, hx]
 have hmod : val sg < V := by rw [hv]; exact Nat.mod_lt _ hVp
 have hz2 : val (l.drop (j + (m + 1))) = 0 := val_zero_of (fun k x hk hx => h.z k x (by omega) hx)
 have hd : (l.take j ++ sg ++ l.drop (j + (m + 1))).drop j = sg ++ l.drop (j + (m + 1)) := by
  rw [List.append_assoc, List.drop_append_of_le_length (by omega), List.drop_eq_nil_of_le (by omega), List.nil_append]
 have hvd : val (sg ++ l.drop (j + (m + 1))) = val sg := by rw [val_app, hz2, Nat.mul_zero, Nat.add_zero]
 have hq : val ((l.drop j).take (m + 1)) / V < 4294967296 := Nat.div_lt_of_lt_mul (by rw [Nat.mul_comm]; exact c5)
 refine ⟨?_, ?_, ?_, h.olim.set _ hq, ?_, ?_, ?_, ?_⟩
 ·rw [List.length_append, List.length_append, c1, hs, List.length_drop]; omega
 ·exact ((h.lim.take _).app ls).app (h.lim.drop _)
 ·rw [List.length_set]; exact hol
 ·rw [List.append_assoc, List.take_append_of_le_length (by omega), List.take_of_length_le (by omega)]
  have e := congrArg (List.take j) h.tk
  rwa [List.take_take, List.take_take, Nat.min_eq_left (by omega)] at e
 ·intro k y hk hy
  by_cases hkm : k = j + m
  ·subst hkm
   rw [List.append_assoc, List.getElem?_append_right (by omega), c1, show j + m - j = m by omega, List.getElem?_append_left (by omega)] at hy
   rw [List.length_take] at c1
   have e1 := val_take_succ hy
   rw [List.take_of_length_le (by omega)] at e1
   rcases Nat.eq_zero_or_pos y with e | e
   ·exact e
   ·have e2 : 4294967296 ^ m * 1 ≤ 4294967296 ^ m * y := Nat.mul_le_mul_left _ e
    omega
  ·rw [List.getElem?_append_right (by rw [List.length_append, c1, hs]; omega), List.length_append, c1, hs, List.getElem?_drop, show j + (m + 1) + (k - (j + (m + 1))) = k by omega] at hy
   exact h.z k y (by omega) hy
 ·rw [hd, hvd, hv, drop_set _ _ _ (by omega), val_cons, val_drop hUj, h.v]
  exact long_round (by rw [c4, val_drop hx])
 ·rw [hd, hvd]; exact hmod
theorem long_first {A B n mm s ul : Nat} (hA : A < 4294967296 ^ n) (hul : ul ≤ n + 1) (he : (digs (A * 2 ^ s)).length = ul) (hmn : mm + 1 ≤ n) (hB : 2147483648 * 4294967296 ^ mm ≤ B * 2 ^ s ∧ s ≤ 31) : Long (B * 2 ^ s) (mm + 1) n (digs (A * 2 ^ s) ++ List.replicate (n + 1 - ul) 0) (n - mm) (digs (A * 2 ^ s) ++ List.replicate (n + 1 - ul) 0) (List.replicate (n - mm) 0) := by
 have lU : Lim (digs (A * 2 ^ s) ++ List.replicate (n + 1 - ul) 0) := (digs_lim _).app (Lim.zeros _)
 have hv : val (digs (A * 2 ^ s) ++ List.replicate (n + 1 - ul) 0) = A * 2 ^ s := by rw [val_app, val_zeros, Nat.mul_zero, Nat.add_zero, val_digs]
 have h := long_ty (V := B * 2 ^ s) (m := mm + 1) (n := n) (by rw [List.length_append, he, List.length_replicate]; omega) lU (by omega) (by
  rw [← drop_div lU, hv, show n + 1 - (mm + 1) = n - mm by omega]
  exact Nat.div_lt_of_lt_mul (by rw [Nat.mul_comm (4294967296 ^ (n - mm))]; exact long_start hA hB.2 hB.1 (by omega)))
 rwa [show n + 1 - (mm + 1) = n - mm by omega] at h
theorem Long.whole {A B n mm s ul : Nat} {l o : List Nat} (hB : 0 < B) (h : Long (B * 2 ^ s) (mm + 1) n (digs (A * 2 ^ s) ++ List.replicate (n + 1 - ul) 0) 0 l o) (hmn : mm + 1 ≤ n) : val o = A / B ∧ val (l.take (mm + 1)) / 2 ^ s = A % B := by
 have h1 := h.v
 have h2 := h.lt
 rw [List.drop_zero, List.drop_zero, List.drop_zero, val_app, val_zeros, Nat.mul_zero, Nat.add_zero, val_digs] at h1
 rw [List.drop_zero] at h2
 have h3 : val (l.take (mm + 1)) = val l := by
  have e := val_split l (mm + 1)
  have hz : val (l.drop (mm + 1)) = 0 := val_zero_of (fun k x hk hx => h.z k x (by omega) hx)
  rw [hz, Nat.mul_zero, Nat.add_zero] at e
  exact e.symm
 rw [h3]
 exact long_end hB h1 h2
end Go.Proofs.YtbiohhmpclnpgaaGreatDoor
namespace Go.Proofs.YtbiohhmpclnpgaaGreatDoor
open Go.RowKit
set_option linter.unusedSimpArgs false
set_option linter.unusedVariables false
set_option maxHeartbeats 4000000
set_option maxRecDepth 100000
theorem over_zeros {U : List Nat} {n ul : Nat} (h : ul ≤ n + 1) (hu : U.length = ul) : over (limbs (List.replicate (n + 1) 0)) 0 (limbs U) = limbs (U ++ List.replicate (n + 1 - ul) 0) := by
 subst hu
 unfold over limbs
 simp
 try omega
set_option maxHeartbeats 8000000 in
theorem divide_long {w : World} {p q : Option Addr} {n m c d : Nat} (A B : Nat) (hn : (digs A).length = n) (hm : (digs B).length = m) (hn0 : n ≤ 400000) (hle : B ≤ A) (hm1 : 2 ≤ m) (h : LR w p c (digs A)) (k : LR w q d (digs B)) :
  Calls Tryz.prog 142 #[.slice p n c, .slice q m d] w fun e w' => ∃ p1 c1 p2 c2, e = .returned (.tuple #[.slice p1 (digs (A / B)).length c1, .slice p2 (digs (A % B)).length c2]) ∧ Fr [] w w' ∧ LR w' p1 c1 (digs (A / B)) ∧ LR w' p2 c2 (digs (A % B)) := by
 have hmn : m ≤ n := by have := digs_mono hle; omega
 obtain ⟨mm, hmm⟩ : ∃ mm, m = mm + 1 := ⟨m - 1, by omega⟩
 obtain ⟨x, hx⟩ : ∃ x, (digs B)[mm]? = some x := ⟨_, List.getElem?_eq_getElem (by omega)⟩
 have hxB := k.lim.at hx
 have hx0 := digs_last B x (by rw [hm, hmm, Nat.add_sub_cancel]; exact hx)
 have hb32 := bl_32 hxB
 have HNL := hid (norm_len (by rw [hm, hmm]) hx)
 have HGE := hid (norm_ge (by rw [hm, hmm]) hx)
 have hxv := limbs_at hx
 rw [show mm = ((m : Int) - 1).toNat by omega] at hxv
 obtain ⟨b0, off, rfl, hb0, hcell⟩ := k.rd.rng (limbs_ne (i := 0) (by omega))
 have Hh := hid h
 have Hk := hid k
 have Hn := hid hn
 have Hm := hid hm
 have Hmm := hid hmm
 have hmm2 : mm + 1 ≤ n := by omega
 have hmm1 : 1 ≤ mm := by omega
 have hc := cmpZ_nonneg hle
 obtain ⟨hlc, hcc⟩ := k.clen
 rw [hm] at hlc
 have H := (Hp.start [] w).pushRng (b := b0) (off := off) hb0 (by simp) hcell
 obtain ⟨s, hs⟩ : ∃ s, 32 - bl x = s := ⟨_, rfl⟩
 rw [hs] at HNL HGE
 have hs32 : s ≤ 32 := by omega
 have Hs := hid hs
 clear h k hn hm hle hx hcell hmm hs hx0 hb32
 go_enter Tryz.func142, Tryz.ntmps142
 go_wp2_with (first | refine x_q H ?_ | refine x_cm (fun h => ?_) (fun h => ?_) | (revert H; refine x_g ?_; intro g w1 hg hf H; (try (have hfk := hid hf; clear hf))) | (revert H; refine x_s ?_; intro w1 hf H; (try (have hfk := hid hf; clear hf))))
 (refine x_c H (compare_any A B Hn.out Hm.out (Hh.out.fr H.fr) (Hk.out.fr H.fr)) ?_; clear H; rintro e w1 ⟨rfl, hF⟩ H)
 generalize cmpZ A B = z at hc ⊢
 go_wp2_with (first | refine x_q H ?_ | refine x_cm (fun h => ?_) (fun h => ?_) | (revert H; refine x_g ?_; intro g w1 hg hf H; (try (have hfk := hid hf; clear hf))) | (revert H; refine x_s ?_; intro w1 hf H; (try (have hfk := hid hf; clear hf))))
 (refine x_c H (lead32_any _ hxB) ?_; clear H; rintro e w1 ⟨rfl, hF⟩ H)
 rw [Hs.out]
 go_wp2_with (first | refine x_q H ?_ | refine x_cm (fun h => ?_) (fun h => ?_) | (revert H; refine x_g ?_; intro g w1 hg hf H; (try (have hfk := hid hf; clear hf))) | (revert H; refine x_s ?_; intro w1 hf H; (try (have hfk := hid hf; clear hf))))
 refine Calls.mono (up_any (digs B) s Hm.out (by omega) (by omega) (Hk.out.fr H.fr)) ?_
 rintro e wb ⟨pv, cv, rfl, hF, hL⟩
 rw [val_digs] at hL ⊢
 have HLV := hid hL
 have Hf0 := hid (H.step hF (by simp)).fr
 have Hh2 := hid (Hh.out.fr Hf0.out)
 obtain ⟨hlv, hcv⟩ := hL.clen
 rw [HNL.out] at hlv
 rw [HNL.out]
 clear H hF hL Hh Hk hb0
 have H := Hp.start [] wb
 go_wp2_with (first | refine x_q H ?_ | refine x_cm (fun h => ?_) (fun h => ?_) | (revert H; refine x_g ?_; intro g w1 hg hf H; (try (have hfk := hid hf; clear hf))) | (revert H; refine x_s ?_; intro w1 hf H; (try (have hfk := hid hf; clear hf))))
 rw [show ((n : Int) + 1).toNat = n + 1 by omega, zeros_limbs] at H
 obtain ⟨g0, rfl⟩ : ∃ g0, g0 = g := ⟨g, rfl⟩
 have hg0 := hg.1
 refine Calls.mono (up_any (digs A) s Hn.out (by omega) (by omega) (Hh2.out.fr H.fr)) ?_
 rintro e w2 ⟨pu, cu, rfl, hF, hL⟩
 rw [val_digs] at hL ⊢
 have HLU := hid hL
 have H1 := H.step hF (by simp)
 clear H hF hL
 have H := H1
 clear H1
 have HUL : Hid ((digs (A * 2 ^ s)).length ≤ n + 1) := hid (by
  apply digs_len_of
  have h1 := digs_lt A
  rw [Hn.out] at h1
  have h2 : 2 ^ s ≤ 2 ^ 32 := Nat.pow_le_pow_right (by decide) hs32
  rw [Nat.pow_succ]
  exact Nat.lt_of_lt_of_le (Nat.mul_lt_mul_of_pos_right h1 (Nat.two_pow_pos s)) (Nat.mul_le_mul_left _ h2))
 obtain ⟨ul, hul⟩ : ∃ ul, (digs (A * 2 ^ s)).length = ul := ⟨_, rfl⟩
 have hul2 : ul ≤ n + 1 := by rw [← hul]; exact HUL.out
 have Hul := hid hul
 rw [hul]
 clear hul
 go_wp2_with (first | refine x_q H ?_ | refine x_cm (fun h => ?_) (fun h => ?_) | (refine is_blt (b := .copy) rfl ?_; go_loud (refine wl_rw rfl (fun K hK => c_cp H rfl rfl rfl (show ul = min ul (n + 1) by omega) (by have := HLU.out.rd; rwa [Hul.out] at this) (by rw [limbs_len, Hul.out, Nat.mul_one]) (limbs_one _) (by rw [limbs_len, limbs_len, List.length_replicate, Hul.out]; omega) (fun w1 hf H1 => hK _ _ ?_))); (clear hK K); (clear H; have H := H1; clear H1; (try dsimp only at H); (try (have hfk := hid hf; clear hf))); (simp only [nrm, ↓reduceIte, Nat.reduceAdd])) | (revert H; refine x_g ?_; intro g w1 hg hf H; (try (have hfk := hid hf; clear hf))) | (revert H; refine x_s ?_; intro w1 hf H; (try (have hfk := hid hf; clear hf))))
 rw [show ((n : Int) + 1 - ((mm : Int) + 1)).toNat = n - mm by omega] at H ⊢
 rw [zeros_limbs, over_zeros hul2 Hul.out] at H
 have hgg := hg.1
 clear HLU HUL
 have HB : Hid (0 < B) := hid (by
  rcases Nat.eq_zero_or_pos B with e | e
  ·have := Hm.out; rw [e, digs_zero] at this; simp at this; omega
  ·exact e)
 have HVB : Hid (B * 2 ^ s ≤ 4294967296 ^ (mm + 1)) := hid (by have := digs_lt (B * 2 ^ s); rw [HNL.out] at this; exact Nat.le_of_lt this)
 have Hne : Hid (∀ b off, pv = some ⟨b, off, none⟩ → b ≠ g0) := hid (by
  intro b off hb
  obtain ⟨b', off', e1, e2, _⟩ := HLV.out.rd.rng (limbs_ne (i := 0) (by rw [HNL.out]; omega))
  rw [hb] at e1
  cases e1
  omega)
 have hlong := long_first (s := s) (ul := ul) (mm := mm) (B := B) (by have h1 := digs_lt A; rwa [Hn.out] at h1) hul2 Hul.out hmm2 HGE.out
 go_loopw [12] (fun s12 wr => ∃ (i : Nat) (l o : List Nat), i ≤ n - mm ∧ s12 = .int .i64 ((i : Int) - 1) ∧ Long (B * 2 ^ s) (mm + 1) n (digs (A * 2 ^ s) ++ List.replicate (n + 1 - ul) 0) i l o ∧ Hp [] wb wr [.blk g (limbs o) 104, .blk g0 (limbs l) 104]) (fun v _ => (intOf v + 1).toNat)
 case atStart => exact ⟨n - mm, _, _, Nat.le_refl _, by go_num, hlong, H⟩
 case round =>
  clear H
  obtain ⟨i, l, o, hi, rfl, HLo, H⟩ := hrel
  by_cases h0 : i = 0
  ·have h0' : (i : Int) - 1 < 0 := by omega
   go_wp2_with (first | refine x_q H ?_ | refine x_cm (fun h => ?_) (fun h => ?_) | (revert H; refine x_g ?_; intro g w1 hg hf H; (try (have hfk := hid hf; clear hf))) | (revert H; refine x_s ?_; intro w1 hf H; (try (have hfk := hid hf; clear hf))))
   have hll := HLo.hl
   have hol := HLo.ol
   rw [h0] at HLo
   obtain ⟨hq, hr⟩ := HLo.whole HB.out hmm2
   have htl : (l.take (mm + 1)).length = mm + 1 := by rw [List.length_take]; omega
   have hL := LR.of_blk (w := wr) (g := g0) (c := n + 1) (l := l.take (mm + 1)) (pad := limbs (l.drop (mm + 1))) (by rw [limbs_app, List.take_append_drop]; exact H.at g0) (HLo.lim.take _) (by omega) (by unfold maxLen; omega)
   have hL2 := LR.of_blk (w := wr) (g := g) (c := n - mm) (l := o) (pad := []) (by rw [List.append_nil]; exact H.at g) HLo.olim (by omega) (by unfold maxLen; omega)
   have HL := hid hL
   have HL2 := hid hL2
   have Hq := hid hq
   have Hr := hid hr
   have Hol := hid (show o.length = n - mm by omega)
   clear hL hL2 hq hr hol hll
   refine Calls.mono (trim_any _ htl HL.out) ?_
   rintro e w1 ⟨rfl, hF⟩
   have HL3 := hid (HL.out.fr hF).trim
   replace HL2 := hid (HL2.out.fr hF)
   have H1 := H.step hF (by simp)
   clear H hF htl
   have H := H1
   clear H1
   have hdl : (digs (val (l.take (mm + 1)))).length ≤ 2000000 := by
    have h1 := digs_len_le (HLo.lim.take (mm + 1))
    have h2 := HLo.hl
    rw [List.length_take] at h1
    omega
   go_wp2_with (first | refine x_q H ?_ | refine x_cm (fun h => ?_) (fun h => ?_) | (revert H; refine x_g ?_; intro g w1 hg hf H; (try (have hfk := hid hf; clear hf))) | (revert H; refine x_s ?_; intro w1 hf H; (try (have hfk := hid hf; clear hf))))
   refine Calls.mono (down_any _ s rfl hdl (by omega) HL3.out) ?_
   rintro e w1 ⟨p5, c5, rfl, hF, hL⟩
   have HL5 := hid hL
   replace HL2 := hid (HL2.out.fr hF)
   have H1 := H.step hF (by simp)
   clear H hF hL
   have H := H1
   clear H1
   rw [Hr.out] at HL5 ⊢
   go_wp2_with (first | refine x_q H ?_ | refine x_cm (fun h => ?_) (fun h => ?_) | (revert H; refine x_g ?_; intro g w1 hg hf H; (try (have hfk := hid hf; clear hf))) | (revert H; refine x_s ?_; intro w1 hf H; (try (have hfk := hid hf; clear hf))))
   refine Calls.mono (trim_any o Hol.out HL2.out) ?_
   rintro e w1 ⟨rfl, hF⟩
   replace HL5 := hid (HL5.out.fr hF)
   replace HL2 := hid (HL2.out.fr hF).trim
   have H1 := H.step hF (by simp)
   clear H hF
   have H := H1
   clear H1
   rw [Hq.out] at HL2 ⊢
   go_wp2_with (first | refine x_q H ?_ | refine x_cm (fun h => ?_) (fun h => ?_) | (revert H; refine x_g ?_; intro g w1 hg hf H; (try (have hfk := hid hf; clear hf))) | (revert H; refine x_s ?_; intro w1 hf H; (try (have hfk := hid hf; clear hf))))
   refine bodyPost_ret (results_tmp2 rfl _ _ _) rfl ?_
   exact ⟨_, _, p5, c5, rfl, Hf0.out.trans H.fr, HL2.out, HL5.out⟩
  ·obtain ⟨j, rfl⟩ : ∃ j, i = j + 1 := ⟨i - 1, by omega⟩
   have e1 : (((j + 1 : Nat) : Int) - 1) = (j : Int) := by omega
   rw [e1]
   clear e1 h0
   have hjm : j + (mm + 1) ≤ n := by omega
   obtain ⟨hcut, c1, c2, c3, c4, c5⟩ := HLo.cut hjm
   have Hcut := hid hcut
   have C1 := hid c1
   have C2 := hid c2
   have C4 := hid c4
   clear hcut c1 c2 c4
   go_wp2_with (first | refine x_q H ?_ | refine x_cm (fun h => ?_) (fun h => ?_) | (revert H; refine x_g ?_; intro g w1 hg hf H; (try (have hfk := hid hf; clear hf))) | (revert H; refine x_s ?_; intro w1 hf H; (try (have hfk := hid hf; clear hf))))
   rw [show j + (mm + 1) + 1 - j = mm + 1 + 1 by omega]
   refine Calls.mono (digit_any (pre := l.take j) (seg := (l.drop j).take (mm + 1 + 1)) (post := l.drop (j + (mm + 1 + 1))) (v := digs (B * 2 ^ s)) (by rw [← Hcut.out]; exact H.at g0) C1.out C2.out HNL.out (by omega) (by omega) (by omega) (by omega) (by omega) c3 (by rw [val_digs]; exact c5) (HLV.out.fr H.fr) Hne.out (fun hv => digs_last (B * 2 ^ s) 0 (by rw [HNL.out]; exact hv) rfl)) ?_
   rintro e w1 ⟨sg, rfl, hF, k1, k2, k3, hgw⟩
   rw [val_digs] at k3 ⊢
   have HN := HLo.next hjm HVB.out k1 k2 k3
   generalize val ((l.drop j).take (mm + 1 + 1)) / (B * 2 ^ s) = qd at HN ⊢
   have H1 := H.wrote hF hgw
   clear H hF k3 hgw
   have H := H1
   clear H1
   have hjo : j < o.length := by have := HLo.ol; omega
   have K1 := hid k1
   clear k1
   go_wp2_with (first | refine x_q H ?_ | refine x_cm (fun h => ?_) (fun h => ?_) | (revert H; refine x_g ?_; intro g w1 hg hf H; (try (have hfk := hid hf; clear hf))) | (revert H; refine x_s ?_; intro w1 hf H; (try (have hfk := hid hf; clear hf))))
   rw [limbs_set] at H
   go_roundw
   case rel => exact ⟨j, _, _, by omega, rfl, HN, H⟩
   case measure => (simp [intOf]; try omega)
theorem divide_any {w : World} {p q : Option Addr} {n m c d : Nat} (A B : Nat) (hn : (digs A).length = n) (hm : (digs B).length = m) (hn0 : n ≤ 400000) (hB : B ≠ 0) (h : LR w p c (digs A)) (k : LR w q d (digs B)) :
  Calls Tryz.prog 142 #[.slice p n c, .slice q m d] w fun e w' => ∃ p1 c1 p2 c2, e = .returned (.tuple #[.slice p1 (digs (A / B)).length c1, .slice p2 (digs (A % B)).length c2]) ∧ Fr [] w w' ∧ LR w' p1 c1 (digs (A / B)) ∧ LR w' p2 c2 (digs (A % B)) := by
 rcases Nat.lt_or_ge A B with h1 | h1
 ·exact divide_less A B hn hm (by omega) h1 h k
 ·have := digs_len_pos hB
  by_cases h2 : m = 1
  ·exact divide_one A B hn hm (by omega) h1 h2 h k
  ·exact divide_long A B hn hm hn0 h1 (by omega) h k
end Go.Proofs.YtbiohhmpclnpgaaGreatDoor
namespace Go.Proofs.YtbiohhmpclnpgaaGreatDoor
open Go.RowKit
set_option linter.unusedSimpArgs false
set_option linter.unusedVariables false
theorem dm_unique {a b q r : Int} (h : a = q * b + r) (h0 : 0 ≤ r) (h1 : r < b.natAbs) : a / b = q ∧ a % b = r := by
 rcases Int.lt_or_lt_of_ne (show b ≠ 0 by omega) with hb | hb
 ·obtain ⟨c, rfl⟩ : ∃ c, b = -c := ⟨-b, by omega⟩
  have h2 := (Int.ediv_emod_unique (a := a) (r := r) (q := -q) (b := c) (by omega)).2 ⟨by rw [h, Int.mul_neg, Int.mul_neg, Int.mul_comm c]; omega, h0, by omega⟩
  rw [Int.ediv_neg, Int.emod_neg, h2.1, h2.2]
  omega
 ·exact (Int.ediv_emod_unique hb).2 ⟨by rw [h, Int.mul_comm b]; omega, h0, by omega⟩
def sg (neg : Bool) (n : Nat) : Int := if neg then -(n : Int) else (n : Int)
theorem zv_sg (neg : Bool) (l : List Nat) : zv neg l = sg neg (val l) := rfl
theorem sg_abs (neg : Bool) (n : Nat) : (sg neg n).natAbs = n := by unfold sg; split <;> omega
theorem sg_mul (a b : Bool) (n m : Nat) : sg a n * sg b m = sg (!(a == b)) (n * m) := by
 unfold sg; cases a <;> cases b <;> simp [Int.natCast_mul, Int.neg_mul, Int.mul_neg]
theorem sg_zero (a : Bool) : sg a 0 = 0 := by unfold sg; cases a <;> rfl
theorem sg_eq_zero {a : Bool} {n : Nat} : sg a n = 0 ↔ n = 0 := by unfold sg; cases a <;> simp <;> omega
theorem dm_plain {na nb : Bool} {A B : Nat} (hB : B ≠ 0) (h : na = false ∨ A % B = 0) : sg na A / sg nb B = sg (!(na == nb)) (A / B) ∧ sg na A % sg nb B = ((A % B : Nat) : Int) := by
 refine dm_unique ?_ (by omega) (by rw [sg_abs]; exact Int.ofNat_lt.2 (Nat.mod_lt _ (Nat.pos_of_ne_zero hB)))
 rw [sg_mul]
 have h1 := Nat.div_add_mod A B
 rw [Nat.mul_comm] at h1
 generalize A / B * B = X at *
 generalize A % B = R at *
 unfold sg
 rcases h with rfl | h
 ·cases nb <;> simp <;> omega
 ·cases na <;> cases nb <;> simp <;> omega
theorem dm_down {nb : Bool} {A B : Nat} (hB : B ≠ 0) (h : A % B ≠ 0) : sg true A / sg nb B = sg (!(true == nb)) (A / B + 1) ∧ sg true A % sg nb B = ((B - A % B : Nat) : Int) := by
 have h2 := Nat.mod_lt A (Nat.pos_of_ne_zero hB)
 refine dm_unique ?_ (by omega) (by rw [sg_abs]; omega)
 rw [sg_mul]
 have h1 := Nat.div_add_mod A B
 rw [Nat.mul_comm] at h1
 rw [Nat.add_mul, Nat.one_mul]
 generalize A / B * B = X at *
 generalize A % B = R at *
 unfold sg
 cases nb <;> simp <;> omega
def BigV (w : World) (v : Value) (z : Int) : Prop := ∃ p c, v = .agg #[.bool (decide (z < 0)), .slice p (digs z.natAbs).length c] ∧ LR w p c (digs z.natAbs)
theorem BigV.fr {w w' : World} {v : Value} {z : Int} (h : BigV w v z) (k : Fr [] w w') : BigV w' v z := by
 obtain ⟨p, c, rfl, hl⟩ := h
 exact ⟨p, c, rfl, hl.fr k⟩
theorem Big.iff {e : Ending} {w w' : World} {z : Int} : Big e w w' z ↔ ∃ v, e = .returned v ∧ Fr [] w w' ∧ BigV w' v z := by
 constructor
 ·rintro ⟨p, c, rfl, h1, h2⟩
  exact ⟨_, rfl, h1, p, c, rfl, h2⟩
 ·rintro ⟨v, rfl, h1, p, c, rfl, h2⟩
  exact ⟨p, c, rfl, h1, h2⟩
theorem BigV.zero (w : World) : BigV w (.agg #[.bool false, .slice none 0 0]) 0 := ⟨none, 0, by simp [digs_zero], by simpa [digs_zero] using LR.zero w⟩
end Go.Proofs.YtbiohhmpclnpgaaGreatDoor
namespace Go.Proofs.YtbiohhmpclnpgaaGreatDoor
open Go.RowKit
set_option linter.unusedSimpArgs false
set_option linter.unusedVariables false
section
variable {P : Program} {w w0 : World} {T : List Nat} {l : List Ent} {L : List Value}
theorem run_cell (H : Hp T w0 w l) {g : Nat} {ty : TypeId} {cs : List Value} {t' : TypeId} (hm : .blk g cs t' ∈ l) {n : Nat} (hs : rowOf P ty = some n) (hn : cs.length = n) : (loadVar ty ⟨g, 0, none⟩).run P w = .ok (.agg cs.toArray) w := by
 unfold rowOf at hs
 cases hu : P.underlying ty with
 | none => simp [hu] at hs
 | some d => exact run_loadVar_row w g t' ty cs.toArray (0, 0) d (H.get hm) hu (by cases d <;> simp_all) (by cases d <;> simp_all)
theorem c_postCT (H : Hp T w0 w l) {fn : Func} {R : Ending → World → Prop} {k u : Nat} {ty : TypeId} (hr : fn.results = #[.cell k ty, .tmp u]) {g : Nat} (hp : L[k]? = some (.pointer (some ⟨g, 0, none⟩))) {cs : List Value} {t' : TypeId} {f : Nat → List Value → List Ent} [i : In g cs t' l f] {n : Nat} [hs : Ro P ty n] (hn : cs.length = n) {v : Value} (hv : L[u]? = some v)
  (hR : R (.returned (.tuple #[.agg cs.toArray, v])) w) : bodyPost P fn R .ret ⟨L.toArray, []⟩ w := by
 refine bodyPost_ret (v := .tuple #[.agg cs.toArray, v]) ?_ rfl hR
 rw [results_cell_tmp hr]
 simp [hp, hv, asAddr, run_cell H i.mem hs.h hn]
theorem c_postCCT (H : Hp T w0 w l) {fn : Func} {R : Ending → World → Prop} {k k2 u : Nat} {ty ty2 : TypeId} (hr : fn.results = #[.cell k ty, .cell k2 ty2, .tmp u]) {g g2 : Nat} (hp : L[k]? = some (.pointer (some ⟨g, 0, none⟩))) (hp2 : L[k2]? = some (.pointer (some ⟨g2, 0, none⟩))) {cs cs2 : List Value} {t' t2 : TypeId} {f f2 : Nat → List Value → List Ent} [i : In g cs t' l f] [i2 : In g2 cs2 t2 l f2] {n n2 : Nat} [hs : Ro P ty n] [hs2 : Ro P ty2 n2] (hn : cs.length = n) (hn2 : cs2.length = n2) {v : Value} (hv : L[u]? = some v)
  (hR : R (.returned (.tuple #[.agg cs.toArray, .agg cs2.toArray, v])) w) : bodyPost P fn R .ret ⟨L.toArray, []⟩ w := by
 refine bodyPost_ret (v := .tuple #[.agg cs.toArray, .agg cs2.toArray, v]) ?_ rfl hR
 simp only [results, hr]
 simp [Sem.run_bind, Result.andThen, hp, hp2, hv, asAddr, run_cell H i.mem hs.h hn, run_cell H i2.mem hs2.h hn2]
end
end Go.Proofs.YtbiohhmpclnpgaaGreatDoor
namespace Go.Proofs.YtbiohhmpclnpgaaGreatDoor
open Go.RowKit
set_option linter.unusedSimpArgs false
set_option linter.unusedVariables false
set_option maxHeartbeats 4000000
set_option maxRecDepth 100000
set_option maxHeartbeats 8000000 in
theorem divMod_any {w : World} {p q : Option Addr} {n m c d : Nat} (na nb : Bool) (la lb : List Nat) (hn : la.length = n) (hm : lb.length = m) (hn0 : n ≤ 400000) (hm0 : m ≤ 400000) (h : LR w p c la) (k : LR w q d lb) (hb : val lb ≠ 0) :
  Calls Tryz.prog 99 #[.agg #[.bool na, .slice p n c], .agg #[.bool nb, .slice q m d]] w fun e w' => ∃ v1 v2, e = .returned (.tuple #[v1, v2, .int .i64 0]) ∧ Fr [] w w' ∧ BigV w' v1 (zv na la / zv nb lb) ∧ BigV w' v2 (zv na la % zv nb lb) := by
 subst hn hm
 have Hh := hid h
 have Hk := hid k
 have hla := digs_len_le h.lim
 have hlb := digs_len_le k.lim
 have hy0 : 0 < (digs (val lb)).length := digs_len_pos hb
 have Hb := hid hb
 have H := Hp.start [] w
 have hA := hid (h.trim)
 have hB := hid (k.trim)
 clear h k hb
 go_enter Tryz.func99, Tryz.ntmps99
 go_wp2_with (first | refine x_q H ?_ | refine x_cm (fun h => ?_) (fun h => ?_) | (revert H; refine x_g ?_; intro g w1 hg hf H; (try (have hfk := hid hf; clear hf))) | (revert H; refine x_s ?_; intro w1 hf H; (try (have hfk := hid hf; clear hf))))
 (refine x_c H (trim_any lb rfl (Hk.out.fr H.fr)) ?_; clear H; rintro e w1 ⟨rfl, hF⟩ H)
 go_wp2_with (first | refine x_q H ?_ | refine x_cm (fun h => ?_) (fun h => ?_) | (revert H; refine x_g ?_; intro g w1 hg hf H; (try (have hfk := hid hf; clear hf))) | (revert H; refine x_s ?_; intro w1 hf H; (try (have hfk := hid hf; clear hf))))
 (refine x_c H (trim_any la rfl (Hh.out.fr H.fr)) ?_; clear H; rintro e w1 ⟨rfl, hF⟩ H)
 go_wp2_with (first | refine x_q H ?_ | refine x_cm (fun h => ?_) (fun h => ?_) | (revert H; refine x_g ?_; intro g w1 hg hf H; (try (have hfk := hid hf; clear hf))) | (revert H; refine x_s ?_; intro w1 hf H; (try (have hfk := hid hf; clear hf))))
 (refine x_c H (divide_any (val la) (val lb) rfl rfl (by omega) Hb.out (hA.out.fr H.fr) (hB.out.fr H.fr)) ?_; clear H; rintro e w1 ⟨p1, c1, p2, c2, rfl, hF, hL1, hL2⟩ H; have HL1 := hid hL1; have HL2 := hid hL2; clear hL1 hL2)
 cases na
 ·go_wp2_with (first | refine x_q H ?_ | refine x_cm (fun h => ?_) (fun h => ?_) | (revert H; refine x_g ?_; intro g w1 hg hf H; (try (have hfk := hid hf; clear hf))) | (revert H; refine x_s ?_; intro w1 hf H; (try (have hfk := hid hf; clear hf))))
  go_wp2_with (first | refine x_q H ?_ | refine x_cm (fun h => ?_) (fun h => ?_) | (revert H; refine x_g ?_; intro g w1 hg hf H; (try (have hfk := hid hf; clear hf))) | (revert H; refine x_s ?_; intro w1 hf H; (try (have hfk := hid hf; clear hf))))
  (refine x_c H (big_any nb (digs (val la / val lb)) rfl HL1.out) ?_; clear H; rintro e w1 ⟨p6, c6, rfl, hF, hL⟩ H; have HL6 := hid hL; clear hL; have HR1 := hid ((HL2.out).fr hF))
  go_wp2_with (first | refine x_q H ?_ | refine x_cm (fun h => ?_) (fun h => ?_) | (revert H; refine x_g ?_; intro g w1 hg hf H; (try (have hfk := hid hf; clear hf))) | (revert H; refine x_s ?_; intro w1 hf H; (try (have hfk := hid hf; clear hf))))
  (refine x_c H (big_any false (digs (val la % val lb)) rfl HR1.out) ?_; clear H; rintro e w1 ⟨p7, c7, rfl, hF, hL⟩ H; have HL7 := hid hL; clear hL; have HL8 := hid (HL6.out.fr hF))
  go_wp2_with (first | refine x_q H ?_ | refine x_cm (fun h => ?_) (fun h => ?_) | (revert H; refine x_s2 ?_; intro w1 hf H hk; (first | (have hk4 := hid (fun p c l h => hk p c l (hk2.out p c l h)); clear hk) | (have hk2 := hid hk; clear hk)); (try (have hfk := hid hf; clear hf))) | (revert H; refine x_g ?_; intro g w1 hg hf H; (try (have hfk := hid hf; clear hf))) | (revert H; refine x_s ?_; intro w1 hf H; (try (have hfk := hid hf; clear hf))))
  refine c_postCCT H rfl rfl rfl rfl rfl rfl ?_
  have e1 : zv nb (digs (val la / val lb)) = zv false la / zv nb lb := (by rw [zv_sg, zv_sg, zv_sg, val_digs]; have e := (dm_plain (na := false) (nb := nb) (A := val la) Hb.out (.inl rfl)).1.symm; cases nb <;> exact e)
  have e2 : zv false (digs (val la % val lb)) = zv false la % zv nb lb := (by rw [zv_sg, zv_sg, zv_sg, val_digs]; exact (dm_plain (na := false) (nb := nb) (A := val la) Hb.out (.inl rfl)).2.symm)
  rw [e1] at HL8
  rw [e2] at HL7
  refine ⟨_, _, rfl, H.fr, ⟨p6, c6, by rw [e1], hk4.out _ _ _ HL8.out⟩, ⟨p7, c7, by rw [e2], hk4.out _ _ _ HL7.out⟩⟩
 ·by_cases hr : val la % val lb = 0
  ·have hr0 : (digs (val la % val lb)).length ≤ 0 := by rw [hr, digs_zero]; exact Nat.le_refl _
   have Hr := hid hr
   clear hr
   go_wp2_with (first | refine x_q H ?_ | refine x_cm (fun h => ?_) (fun h => ?_) | (revert H; refine x_g ?_; intro g w1 hg hf H; (try (have hfk := hid hf; clear hf))) | (revert H; refine x_s ?_; intro w1 hf H; (try (have hfk := hid hf; clear hf))))
   go_wp2_with (first | refine x_q H ?_ | refine x_cm (fun h => ?_) (fun h => ?_) | (revert H; refine x_g ?_; intro g w1 hg hf H; (try (have hfk := hid hf; clear hf))) | (revert H; refine x_s ?_; intro w1 hf H; (try (have hfk := hid hf; clear hf))))
   (refine x_c H (big_any (!nb) (digs (val la / val lb)) rfl HL1.out) ?_; clear H; rintro e w1 ⟨p6, c6, rfl, hF, hL⟩ H; have HL6 := hid hL; clear hL; have HR1 := hid ((HL2.out).fr hF))
   go_wp2_with (first | refine x_q H ?_ | refine x_cm (fun h => ?_) (fun h => ?_) | (revert H; refine x_g ?_; intro g w1 hg hf H; (try (have hfk := hid hf; clear hf))) | (revert H; refine x_s ?_; intro w1 hf H; (try (have hfk := hid hf; clear hf))))
   (refine x_c H (big_any false (digs (val la % val lb)) rfl HR1.out) ?_; clear H; rintro e w1 ⟨p7, c7, rfl, hF, hL⟩ H; have HL7 := hid hL; clear hL; have HL8 := hid (HL6.out.fr hF))
   go_wp2_with (first | refine x_q H ?_ | refine x_cm (fun h => ?_) (fun h => ?_) | (revert H; refine x_s2 ?_; intro w1 hf H hk; (first | (have hk4 := hid (fun p c l h => hk p c l (hk2.out p c l h)); clear hk) | (have hk2 := hid hk; clear hk)); (try (have hfk := hid hf; clear hf))) | (revert H; refine x_g ?_; intro g w1 hg hf H; (try (have hfk := hid hf; clear hf))) | (revert H; refine x_s ?_; intro w1 hf H; (try (have hfk := hid hf; clear hf))))
   refine c_postCCT H rfl rfl rfl rfl rfl rfl ?_
   have e1 : zv (!nb) (digs (val la / val lb)) = zv true la / zv nb lb := (by rw [zv_sg, zv_sg, zv_sg, val_digs]; have e := (dm_plain (na := true) (nb := nb) (A := val la) Hb.out (.inr Hr.out)).1.symm; cases nb <;> exact e)
   have e2 : zv false (digs (val la % val lb)) = zv true la % zv nb lb := (by rw [zv_sg, zv_sg, zv_sg, val_digs]; exact (dm_plain (na := true) (nb := nb) (A := val la) Hb.out (.inr Hr.out)).2.symm)
   rw [e1] at HL8
   rw [e2] at HL7
   refine ⟨_, _, rfl, H.fr, ⟨p6, c6, by rw [e1], hk4.out _ _ _ HL8.out⟩, ⟨p7, c7, by rw [e2], hk4.out _ _ _ HL7.out⟩⟩
  ·have hr0 : 0 < (digs (val la % val lb)).length := digs_len_pos hr
   have Hr := hid hr
   have hrl := digs_mono (Nat.le_of_lt (Nat.mod_lt (val la) (Nat.pos_of_ne_zero Hb.out)))
   have hql := digs_mono (Nat.div_le_self (val la) (val lb))
   have hrB := hid (Nat.le_of_lt (Nat.mod_lt (val la) (Nat.pos_of_ne_zero Hb.out)))
   clear hr
   go_wp2_with (first | refine x_q H ?_ | refine x_cm (fun h => ?_) (fun h => ?_) | (revert H; refine x_g ?_; intro g w1 hg hf H; (try (have hfk := hid hf; clear hf))) | (revert H; refine x_s ?_; intro w1 hf H; (try (have hfk := hid hf; clear hf))))
   have HO := hid (LR.of_blk (l := [1]) (c := 1) (pad := []) (by have := H.at g; simpa [limbs] using this) (Lim.cons (by decide) Lim.nil) (by simp) (by unfold maxLen; omega))
   (refine x_c H (plus_any (digs (val la / val lb)) [1] rfl rfl (by omega) (by simp) (HL1.out.fr hfk.out) HO.out) ?_; clear H; rintro e w1 ⟨p3, c3, rfl, hF, hL⟩ H; have HL3 := hid hL; have HR1 := hid ((HL2.out.fr hfk.out).fr hF); clear hL)
   rw [val_digs, val_one] at HL3 ⊢
   go_wp2_with (first | refine x_q H ?_ | refine x_cm (fun h => ?_) (fun h => ?_) | (revert H; refine x_g ?_; intro g w1 hg hf H; (try (have hfk := hid hf; clear hf))) | (revert H; refine x_s ?_; intro w1 hf H; (try (have hfk := hid hf; clear hf))))
   (refine x_c H (minus_any (digs (val lb)) (digs (val la % val lb)) rfl rfl hrl (by omega) (by rw [val_digs, val_digs]; exact hrB.out) (hB.out.fr H.fr) HR1.out) ?_; clear H; rintro e w1 ⟨p4, c4, rfl, hF, hL⟩ H; have HL4 := hid hL; have HL5 := hid (HL3.out.fr hF); clear hL)
   rw [val_digs, val_digs] at HL4 ⊢
   go_wp2_with (first | refine x_q H ?_ | refine x_cm (fun h => ?_) (fun h => ?_) | (revert H; refine x_g ?_; intro g w1 hg hf H; (try (have hfk := hid hf; clear hf))) | (revert H; refine x_s ?_; intro w1 hf H; (try (have hfk := hid hf; clear hf))))
   go_wp2_with (first | refine x_q H ?_ | refine x_cm (fun h => ?_) (fun h => ?_) | (revert H; refine x_g ?_; intro g w1 hg hf H; (try (have hfk := hid hf; clear hf))) | (revert H; refine x_s ?_; intro w1 hf H; (try (have hfk := hid hf; clear hf))))
   (refine x_c H (big_any (!nb) (digs (val la / val lb + 1)) rfl HL5.out) ?_; clear H; rintro e w1 ⟨p6, c6, rfl, hF, hL⟩ H; have HL6 := hid hL; clear hL; have HR1 := hid ((HL4.out).fr hF))
   go_wp2_with (first | refine x_q H ?_ | refine x_cm (fun h => ?_) (fun h => ?_) | (revert H; refine x_g ?_; intro g w1 hg hf H; (try (have hfk := hid hf; clear hf))) | (revert H; refine x_s ?_; intro w1 hf H; (try (have hfk := hid hf; clear hf))))
   (refine x_c H (big_any false (digs (val lb - val la % val lb)) rfl HR1.out) ?_; clear H; rintro e w1 ⟨p7, c7, rfl, hF, hL⟩ H; have HL7 := hid hL; clear hL; have HL8 := hid (HL6.out.fr hF))
   go_wp2_with (first | refine x_q H ?_ | refine x_cm (fun h => ?_) (fun h => ?_) | (revert H; refine x_s2 ?_; intro w1 hf H hk; (first | (have hk4 := hid (fun p c l h => hk p c l (hk2.out p c l h)); clear hk) | (have hk2 := hid hk; clear hk)); (try (have hfk := hid hf; clear hf))) | (revert H; refine x_g ?_; intro g w1 hg hf H; (try (have hfk := hid hf; clear hf))) | (revert H; refine x_s ?_; intro w1 hf H; (try (have hfk := hid hf; clear hf))))
   refine c_postCCT H rfl rfl rfl rfl rfl rfl ?_
   have e1 : zv (!nb) (digs (val la / val lb + 1)) = zv true la / zv nb lb := (by rw [zv_sg, zv_sg, zv_sg, val_digs]; have e := (dm_down (nb := nb) (A := val la) Hb.out Hr.out).1.symm; cases nb <;> exact e)
   have e2 : zv false (digs (val lb - val la % val lb)) = zv true la % zv nb lb := (by rw [zv_sg, zv_sg, zv_sg, val_digs]; exact (dm_down (nb := nb) (A := val la) Hb.out Hr.out).2.symm)
   rw [e1] at HL8
   rw [e2] at HL7
   refine ⟨_, _, rfl, H.fr, ⟨p6, c6, by rw [e1], hk4.out _ _ _ HL8.out⟩, ⟨p7, c7, by rw [e2], hk4.out _ _ _ HL7.out⟩⟩
end Go.Proofs.YtbiohhmpclnpgaaGreatDoor
namespace Go.Proofs.YtbiohhmpclnpgaaGreatDoor
open Go.RowKit
set_option linter.unusedSimpArgs false
set_option linter.unusedVariables false
set_option maxHeartbeats 4000000
set_option maxRecDepth 100000
end Go.Proofs.YtbiohhmpclnpgaaGreatDoor
namespace Go.Proofs.YtbiohhmpclnpgaaGreatDoor
open Go.RowKit
set_option linter.unusedSimpArgs false
set_option linter.unusedVariables false
set_option maxHeartbeats 4000000
set_option maxRecDepth 100000
section
variable {P : Program} {w : World} {a : Act} {o : Oper}
end
theorem or_nat64 {m n s x : Nat} (hm : m < 2 ^ s) (hn : n = x * 2 ^ s) (h : m + n < 18446744073709551616) : bits .or .u64 (m : Int) (n : Int) = ((m + n : Nat) : Int) := by
 have h1 : (BitVec.ofInt 64 (m : Int)).toNat = m := by
  rw [BitVec.ofInt_natCast, BitVec.toNat_ofNat]; exact Nat.mod_eq_of_lt (by omega)
 have h2 : (BitVec.ofInt 64 (n : Int)).toNat = n := by
  rw [BitVec.ofInt_natCast, BitVec.toNat_ofNat]; exact Nat.mod_eq_of_lt (by omega)
 show IntKind.u64.wrap ((BitVec.ofInt 64 (m : Int) ||| BitVec.ofInt 64 (n : Int)).toNat : Int) = _
 have e : m ||| n = m + n := by
  rw [hn, Nat.mul_comm x, Nat.or_comm, ← Nat.two_pow_add_eq_or_of_lt hm]
  omega
 rw [BitVec.toNat_or, h1, h2, e]
 exact wrap_inr (by simp only [inr]; omega)
theorem two_lt {l : List Nat} (h : Lim l) (hl : l.length ≤ 2) : val l < 18446744073709551616 := by
 have h1 := val_lt h
 have h2 : 4294967296 ^ l.length ≤ 4294967296 ^ 2 := Nat.pow_le_pow_right (by decide) hl
 have h3 : (4294967296 : Nat) ^ 2 = 18446744073709551616 := by decide
 omega
theorem two_ge {A : Nat} (h : 2 < (digs A).length) : 18446744073709551616 ≤ A := by
 have h0 : A ≠ 0 := fun e => by rw [e, digs_zero] at h; simp at h
 have h1 := digs_ge h0
 have h2 : 4294967296 ^ 2 ≤ 4294967296 ^ ((digs A).length - 1) := Nat.pow_le_pow_right (by decide) (by omega)
 have h3 : (4294967296 : Nat) ^ 2 = 18446744073709551616 := by decide
 omega
def intV (z : Int) : Value := if -9223372036854775808 ≤ z ∧ z ≤ 9223372036854775807 then .tuple #[.int .i64 z, .bool true] else .tuple #[.int .i64 0, .bool false]
set_option maxHeartbeats 8000000 in
theorem int_any {w : World} {p : Option Addr} {n c : Nat} (neg : Bool) (l : List Nat) (hl : l.length = n) (hn : n ≤ 1000000) (h : LR w p c l) (hz : 2 < (digs (val l)).length ∨ (-9223372036854775808 ≤ zv neg l ∧ zv neg l ≤ 9223372036854775807)) :
  Calls Tryz.prog 68 #[.agg #[.bool neg, .slice p n c]] w fun e w' => e = .returned (intV (zv neg l)) ∧ Fr [] w w' := by
 subst hl
 have Hh := hid h
 have hA := hid (h.trim)
 have Hz := hid hz
 clear hz
 have hzv : Hid (zv neg l = if neg then -((val l : Nat) : Int) else (val l : Int)) := hid rfl
 have H := Hp.start [] w
 clear h
 obtain ⟨A, hAe⟩ : ∃ A, val l = A := ⟨_, rfl⟩
 have Hv := hid hAe
 rw [hAe] at hzv hA Hz
 clear hAe
 by_cases h2 : 2 < (digs A).length
 ·have hr := hid (two_ge h2)
  go_enter Tryz.func68, Tryz.ntmps68
  go_wp2_with (first | refine x_q H ?_ | refine x_cm (fun h => ?_) (fun h => ?_) | (revert H; refine x_g ?_; intro g w1 hg hf H; (try clear hf)) | (revert H; refine x_s ?_; intro w1 hf H; (try clear hf)))
  (refine x_c H (trim_any l rfl (Hh.out.fr H.fr)) ?_; clear H; rintro e w1 ⟨rfl, hF⟩ H)
  rw [Hv.out]
  go_wp2_with (first | refine x_q H ?_ | refine x_cm (fun h => ?_) (fun h => ?_) | (revert H; refine x_g ?_; intro g w1 hg hf H; (try clear hf)) | (revert H; refine x_s ?_; intro w1 hf H; (try clear hf)))
  ((try simp only [Exit.inBlock, Exit.then]); refine bodyPost_ret (results_tmp2 rfl _ _ _) rfl ?_)
  refine ⟨?_, H.fr⟩
  have h3 := hzv.out
  have h4 := hr.out
  have : ¬ (-9223372036854775808 ≤ zv neg l ∧ zv neg l ≤ 9223372036854775807) := by rw [h3]; cases neg <;> simp <;> omega
  rw [intV, if_neg this]
  rfl
 ·have hA64 := two_lt (digs_lim A) (by omega)
  rw [val_digs] at hA64
  go_enter Tryz.func68, Tryz.ntmps68
  go_wp2_with (first | refine x_q H ?_ | refine x_cm (fun h => ?_) (fun h => ?_) | (revert H; refine x_g ?_; intro g w1 hg hf H; (try clear hf)) | (revert H; refine x_s ?_; intro w1 hf H; (try clear hf)))
  (refine x_c H (trim_any l rfl (Hh.out.fr H.fr)) ?_; clear H; rintro e w1 ⟨rfl, hF⟩ H)
  rw [Hv.out]
  go_wp2_with (first | refine x_q H ?_ | refine x_cm (fun h => ?_) (fun h => ?_) | (revert H; refine x_g ?_; intro g w1 hg hf H; (try clear hf)) | (revert H; refine x_s ?_; intro w1 hf H; (try clear hf)))
  go_loopw [5, 16] (fun s5 s16 wr => ∃ i u : Nat, i ≤ (digs A).length ∧ s16 = .int .i64 (i : Int) ∧ s5 = .int .u64 (u : Int) ∧ Hid (u = val ((digs A).take i)) ∧ Hp [] w wr [.blk g [.bool neg, .slice p l.length c] 51]) (fun _ v _ => (digs A).length - (intOf v).toNat)
  case atStart => exact ⟨0, 0, Nat.zero_le _, rfl, rfl, hid rfl, H⟩
  case round =>
   clear H
   obtain ⟨i, u, hi, rfl, rfl, Hu, H⟩ := hrel
   by_cases hin : i < (digs A).length
   ·obtain ⟨x, hx⟩ : ∃ x, (digs A)[i]? = some x := ⟨_, List.getElem?_eq_getElem hin⟩
    have hxv := limbs_at hx
    have hxB := hA.out.lim.at hx
    have Hx := hid hx
    obtain ⟨b0, off, rfl, hb0, hcell⟩ := hA.out.rd.rng (limbs_ne (i := i) hin)
    have H1 := H.pushRng (b := b0) (off := off) hb0 (by simp) hcell
    clear H hcell
    have H := H1
    clear H1
    have hi1 : i ≤ 1 := by omega
    obtain ⟨z, hz⟩ : ∃ z, x * 4294967296 ^ i = z := ⟨_, rfl⟩
    have hsum : Hid (val ((digs A).take (i + 1)) = u + z) := hid (by rw [val_take_succ hx, ← Hu.out, ← hz, Nat.mul_comm])
    have hS64 : u + z < 18446744073709551616 := by
     rw [← hsum.out]
     exact two_lt ((digs_lim A).take _) (by rw [List.length_take]; omega)
    have hz64 : z < 18446744073709551616 := by omega
    have hor : bits .or .u64 (u : Int) (z : Int) = ((u + z : Nat) : Int) := or_nat64 (s := 32 * i) (x := x) (by
     rw [Hu.out, ← powB]
     have h1 := val_lt ((digs_lim A).take i)
     rwa [List.length_take, Nat.min_eq_left hi] at h1) (by rw [← hz, powB]) hS64
    have HOR : Hid (bits .or .u64 (u : Int) (IntKind.u64.wrap ((x : Int) * 2 ^ (32 * i))) = ((u + z : Nat) : Int)) := hid (by
     rw [wrapN z (by rw [← hz, powB, Int.natCast_mul, Int.natCast_pow]; rfl) hz64, hor])
    clear hx hor hz
    go_wp2_with (first | refine x_q H ?_ | refine x_cm (fun h => ?_) (fun h => ?_) | (revert H; refine x_g ?_; intro g w1 hg hf H; (try clear hf)) | (revert H; refine x_s ?_; intro w1 hf H; (try clear hf)))
    go_roundw
    case rel => exact ⟨i + 1, u + z, by omega, by go_num, by rw [HOR.out], hid hsum.out.symm, H.sub (by repeat first | exact List.Sublist.refl _ | exact List.nil_sublist _ | apply List.Sublist.cons_cons | apply List.Sublist.cons)⟩
    case measure => (simp [intOf]; try omega)
   ·have hu : u = A := by rw [Hu.out, List.take_of_length_le (by omega), val_digs]
    subst hu
    have hii : i = (digs u).length := by omega
    have h3 := hzv.out
    have fin : ∀ z : Int, zv neg l = z → -9223372036854775808 ≤ z ∧ z ≤ 9223372036854775807 → (Value.tuple #[.int .i64 z, .bool true]) = intV (zv neg l) := fun z e hz => by rw [e, intV, if_pos hz]
    have bad : ¬ (-9223372036854775808 ≤ zv neg l ∧ zv neg l ≤ 9223372036854775807) → (Value.tuple #[.int .i64 0, .bool false]) = intV (zv neg l) := fun hz => by rw [intV, if_neg hz]
    have FIN := hid fin
    have BAD := hid bad
    have H3 := hid h3
    have HZ := hid (Hz.out.resolve_left (by omega))
    clear fin bad h3 hzv hii
    by_cases h63 : u ≤ 9223372036854775808
    ·by_cases hlt : u < 9223372036854775808
     ·by_cases hu0 : u = 0
      ·cases neg
       ·go_wp2_with (first | refine x_q H ?_ | refine x_cm (fun h => ?_) (fun h => ?_) | (revert H; refine x_g ?_; intro g w1 hg hf H; (try clear hf)) | (revert H; refine x_s ?_; intro w1 hf H; (try clear hf)))
        ((try simp only [Exit.inBlock, Exit.then]); refine bodyPost_ret (results_tmp2 rfl _ _ _) rfl ?_)
        refine ⟨?_, H.fr⟩
        rw [← FIN.out _ (by simpa using H3.out) (by omega)]; rfl
       ·go_wp2_with (first | refine x_q H ?_ | refine x_cm (fun h => ?_) (fun h => ?_) | (revert H; refine x_g ?_; intro g w1 hg hf H; (try clear hf)) | (revert H; refine x_s ?_; intro w1 hf H; (try clear hf)))
        ((try simp only [Exit.inBlock, Exit.then]); refine bodyPost_ret (results_tmp2 rfl _ _ _) rfl ?_)
        refine ⟨?_, H.fr⟩
        rw [← FIN.out (0 : Int) (by have := H3.out; simp at this; omega) (by omega)]; rfl
      ·cases neg
       ·go_wp2_with (first | refine x_q H ?_ | refine x_cm (fun h => ?_) (fun h => ?_) | (revert H; refine x_g ?_; intro g w1 hg hf H; (try clear hf)) | (revert H; refine x_s ?_; intro w1 hf H; (try clear hf)))
        ((try simp only [Exit.inBlock, Exit.then]); refine bodyPost_ret (results_tmp2 rfl _ _ _) rfl ?_)
        refine ⟨?_, H.fr⟩
        rw [← FIN.out _ (by simpa using H3.out) (by omega)]; rfl
       ·go_wp2_with (first | refine x_q H ?_ | refine x_cm (fun h => ?_) (fun h => ?_) | (revert H; refine x_g ?_; intro g w1 hg hf H; (try clear hf)) | (revert H; refine x_s ?_; intro w1 hf H; (try clear hf)))
        ((try simp only [Exit.inBlock, Exit.then]); refine bodyPost_ret (results_tmp2 rfl _ _ _) rfl ?_)
        refine ⟨?_, H.fr⟩
        rw [← FIN.out (-((u : Int) - 1) - 1) (by have := H3.out; simp at this; omega) (by omega)]; rfl
     ·cases neg
      ·exact absurd HZ.out (by have := H3.out; simp at this; omega)
      ·go_wp2_with (first | refine x_q H ?_ | refine x_cm (fun h => ?_) (fun h => ?_) | (revert H; refine x_g ?_; intro g w1 hg hf H; (try clear hf)) | (revert H; refine x_s ?_; intro w1 hf H; (try clear hf)))
       ((try simp only [Exit.inBlock, Exit.then]); refine bodyPost_ret (results_tmp2 rfl _ _ _) rfl ?_)
       refine ⟨?_, H.fr⟩
       rw [← FIN.out (-((u : Int) - 1) - 1) (by have := H3.out; simp at this; omega) (by omega)]; rfl
    ·cases neg
     ·exact absurd HZ.out (by have := H3.out; simp at this; omega)
     ·exact absurd HZ.out (by have := H3.out; simp at this; omega)
end Go.Proofs.YtbiohhmpclnpgaaGreatDoor
