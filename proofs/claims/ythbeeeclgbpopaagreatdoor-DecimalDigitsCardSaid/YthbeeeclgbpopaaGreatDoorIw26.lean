/-
  The integers: the number of bits of a magnitude.
-/
import Derived.Test.YthbeeeclgbpopaaGreatDoorIw19
import Derived.Deep.DeepCutAuto
import Derived.Deep.CutBlock
namespace Go.Proofs.YthbeeeclgbpopaaGreatDoor
open Go.RowKit
set_option linter.unusedSimpArgs false
set_option linter.unusedVariables false
set_option maxHeartbeats 4000000
set_option maxRecDepth 100000
set_option maxHeartbeats 8000000 in
theorem length_any {w : World} {p : Option Addr} {n c : Nat} (A : Nat) (hl : (digs A).length = n) (hn : n ≤ 2000000) (h : LR w p c (digs A)) :
    Calls Tryz.prog 174 #[.slice p n c] w fun e w' => e = .returned (.int .i64 (bl A : Int)) ∧ Fr [] w w' := by
  have Hh := hid h
  have H := Hp.start [] w
  obtain ⟨hlc, hc⟩ := h.clen
  rw [hl] at hlc
  by_cases h0 : n ≤ 0
  · have e : A = 0 := digs_zero_len (by omega)
    have HB : Hid (bl A = 0) := hid (by rw [e]; rfl)
    clear h hl e
    go_enter Tryz.func174, Tryz.ntmps174
    go_wp2_with (first | refine x_q H ?_ | refine x_cm (fun h => ?_) (fun h => ?_) | (revert H; (first | (refine x_g ?_; intro g w1 hg hf H) | (refine x_s ?_; intro w1 hf H)); (try clear hf)))
    go_ret
    exact ⟨by rw [HB.out]; rfl, H.fr⟩
  · obtain ⟨k, hk⟩ : ∃ k, n = k + 1 := ⟨n - 1, by omega⟩
    obtain ⟨x, hx⟩ : ∃ x, (digs A)[k]? = some x := ⟨_, List.getElem?_eq_getElem (by omega)⟩
    have hxv := limbs_at hx
    have hxB := h.lim.at hx
    obtain ⟨b0, off, rfl, hb0, hcell⟩ := h.rd.rng (limbs_ne (i := k) (by omega))
    have H1 := H.pushRng (b := b0) (off := off) hb0 (by simp) hcell
    clear H hcell
    have H := H1
    clear H1
    have HB : Hid (bl A = 32 * (n - 1) + bl x) := hid (by
      rw [show n - 1 = k by omega]
      have h2 := bl_digs (by rw [hl, hk]) (digs_lim A) hx (digs_last A x (by rw [hl, show n - 1 = k by omega]; exact hx))
      rwa [val_digs] at h2)
    have hb32 := bl_32 hxB
    have hn1 : 1 ≤ n := by omega
    rw [show k = ((n : Int) - 1).toNat by omega] at hxv
    clear hx h hl h0 hk
    go_enter Tryz.func174, Tryz.ntmps174
    go_wp2_with (first | refine x_q H ?_ | refine x_cm (fun h => ?_) (fun h => ?_) | (revert H; (first | (refine x_g ?_; intro g w1 hg hf H) | (refine x_s ?_; intro w1 hf H)); (try clear hf)))
    (refine x_c H (len32_any _ hxB) ?_; clear H; rintro e w1 ⟨rfl, hF⟩ H)
    go_wp2_with (first | refine x_q H ?_ | refine x_cm (fun h => ?_) (fun h => ?_) | (revert H; (first | (refine x_g ?_; intro g w1 hg hf H) | (refine x_s ?_; intro w1 hf H)); (try clear hf)))
    go_ret
    exact ⟨by rw [HB.out]; go_num, H.fr⟩
end Go.Proofs.YthbeeeclgbpopaaGreatDoor
/-
  The integers: the division of magnitudes, the short ways.
-/
namespace Go.Proofs.YthbeeeclgbpopaaGreatDoor
open Go.RowKit
set_option linter.unusedSimpArgs false
set_option linter.unusedVariables false
set_option maxHeartbeats 4000000
set_option maxRecDepth 100000
set_option maxHeartbeats 8000000 in
theorem divide_less {w : World} {p q : Option Addr} {n m c d : Nat} (A B : Nat) (hn : (digs A).length = n) (hm : (digs B).length = m) (hn0 : n ≤ 1000000) (hlt : A < B) (h : LR w p c (digs A)) (k : LR w q d (digs B)) :
    Calls Tryz.prog 142 #[.slice p n c, .slice q m d] w fun e w' => ∃ p1 c1 p2 c2, e = .returned (.tuple #[.slice p1 (digs (A / B)).length c1, .slice p2 (digs (A % B)).length c2]) ∧ Fr [] w w' ∧ LR w' p1 c1 (digs (A / B)) ∧ LR w' p2 c2 (digs (A % B)) := by
  have Hh := hid h
  have Hk := hid k
  have Hn := hid hn
  have Hm := hid hm
  have hc := cmpZ_neg hlt
  have HQ := hid (Nat.div_eq_of_lt hlt)
  have HR := hid (Nat.mod_eq_of_lt hlt)
  clear h k hn hm hlt
  have H := Hp.start [] w
  go_enter Tryz.func142, Tryz.ntmps142
  go_wp2_with (first | refine x_q H ?_ | refine x_cm (fun h => ?_) (fun h => ?_) | (revert H; (first | (refine x_g ?_; intro g w1 hg hf H) | (refine x_s ?_; intro w1 hf H)); (try (have hfk := hid hf; clear hf))))
  (refine x_c H (compare_any A B Hn.out Hm.out (Hh.out.fr H.fr) (Hk.out.fr H.fr)) ?_; clear H; rintro e w1 ⟨rfl, hF⟩ H)
  generalize cmpZ A B = z at hc ⊢
  go_wp2_with (first | refine x_q H ?_ | refine x_cm (fun h => ?_) (fun h => ?_) | (revert H; (first | (refine x_g ?_; intro g w1 hg hf H) | (refine x_s ?_; intro w1 hf H)); (try (have hfk := hid hf; clear hf))))
  refine Calls.mono (clone_any (digs A) Hn.out hn0 (Hh.out.fr H.fr)) ?_
  rintro e w1 ⟨p2, c2, rfl, hF, hL⟩
  have HL := hid hL
  have H1 := H.step hF (by simp)
  clear H hF hL
  have H := H1
  clear H1
  go_wp2_with (first | refine x_q H ?_ | refine x_cm (fun h => ?_) (fun h => ?_) | (revert H; (first | (refine x_g ?_; intro g w1 hg hf H) | (refine x_s ?_; intro w1 hf H)); (try (have hfk := hid hf; clear hf))))
  refine bodyPost_ret (results_tmp2 rfl _ _ _) rfl ?_
  rw [HQ.out, HR.out, digs_zero, Hn.out]
  exact ⟨none, 0, p2, c2, rfl, H.fr, LR.zero _, HL.out⟩
set_option maxHeartbeats 8000000 in
theorem divide_one {w : World} {p q : Option Addr} {n m c d : Nat} (A B : Nat) (hn : (digs A).length = n) (hm : (digs B).length = m) (hn0 : n ≤ 1000000) (hle : B ≤ A) (hm1 : m = 1) (h : LR w p c (digs A)) (k : LR w q d (digs B)) :
    Calls Tryz.prog 142 #[.slice p n c, .slice q m d] w fun e w' => ∃ p1 c1 p2 c2, e = .returned (.tuple #[.slice p1 (digs (A / B)).length c1, .slice p2 (digs (A % B)).length c2]) ∧ Fr [] w w' ∧ LR w' p1 c1 (digs (A / B)) ∧ LR w' p2 c2 (digs (A % B)) := by
  obtain ⟨x, hx⟩ : ∃ x, (digs B)[0]? = some x := ⟨_, List.getElem?_eq_getElem (by omega)⟩
  have hxB := k.lim.at hx
  have hBx : B = x := by
    have h1 := digit_of k.lim hx
    rw [val_digs, Nat.pow_zero, Nat.div_one] at h1
    have h2 := digs_lt B
    rw [hm, hm1, Nat.pow_one] at h2
    omega
  have hx0 : 0 < x := by
    have := digs_last B x (by rw [hm, hm1]; exact hx)
    omega
  have hxv := limbs_at hx
  obtain ⟨b0, off, rfl, hb0, hcell⟩ := k.rd.rng (limbs_ne (i := 0) (by omega))
  have Hh := hid h
  have Hk := hid k
  have Hn := hid hn
  have Hm := hid hm
  have HB := hid hBx
  have hc := cmpZ_nonneg hle
  have hm2 : m ≤ 1 := by omega
  have hm3 : 1 ≤ m := by omega
  obtain ⟨hlc, hcc⟩ := k.clen
  rw [hm] at hlc
  have H := (Hp.start [] w).pushRng (b := b0) (off := off) hb0 (by simp) hcell
  clear h k hn hm hle hx hBx hcell hm1
  go_enter Tryz.func142, Tryz.ntmps142
  go_wp2_with (first | refine x_q H ?_ | refine x_cm (fun h => ?_) (fun h => ?_) | (revert H; (first | (refine x_g ?_; intro g w1 hg hf H) | (refine x_s ?_; intro w1 hf H)); (try (have hfk := hid hf; clear hf))))
  (refine x_c H (compare_any A B Hn.out Hm.out (Hh.out.fr H.fr) (Hk.out.fr H.fr)) ?_; clear H; rintro e w1 ⟨rfl, hF⟩ H)
  generalize cmpZ A B = z at hc ⊢
  go_wp2_with (first | refine x_q H ?_ | refine x_cm (fun h => ?_) (fun h => ?_) | (revert H; (first | (refine x_g ?_; intro g w1 hg hf H) | (refine x_s ?_; intro w1 hf H)); (try (have hfk := hid hf; clear hf))))
  refine Calls.mono (short_any (digs A) x Hn.out hn0 (Hh.out.fr H.fr) hx0 hxB) ?_
  rintro e w1 ⟨p1, c1, rfl, hF, hL⟩
  rw [val_digs] at hL ⊢
  have HL := hid hL
  have H1 := H.step hF (by simp)
  clear H hF hL
  have H := H1
  clear H1
  go_wp2_with (first | refine x_q H ?_ | refine x_cm (fun h => ?_) (fun h => ?_) | (refine is_buildSlice rfl ?_; refine wl_rw rfl (fun K hK => c_sN H rfl (by repeat first | exact .nil _ | apply Parts.tmp (by rfl) (by rfl) | apply Parts.con (by rfl)) rfl (by intro c hc; simp only [List.mem_cons, List.not_mem_nil, or_false] at hc; (try (rcases hc with rfl | rfl | rfl | rfl | rfl | rfl | rfl | rfl <;> rfl))) (by decide) (by decide) (fun g w1 hg hf H1 => hK _ _ ?_)); (clear hK K); (clear H; have H := H1; clear H1; (try dsimp only at H); (try (have hfk := hid hf; clear hf))); (simp only [nrm, ↓reduceIte, Nat.reduceAdd])) | (revert H; (first | (refine x_g ?_; intro g w1 hg hf H) | (refine x_s ?_; intro w1 hf H)); (try (have hfk := hid hf; clear hf))))
  have hxr : A % x < x := Nat.mod_lt _ hx0
  have hlr : Lim [A % x] := Lim.cons (by omega) Lim.nil
  have hL2 : LR _ (some ⟨g, 0, none⟩) 1 [A % x] := LR.of_blk (pad := []) (by have := H.at g; rw [show ((A : Int) % (x : Int)) = ((A % x : Nat) : Int) by rw [Int.natCast_emod]] at this; simpa [limbs] using this) hlr (by simp) (by unfold maxLen; omega)
  have HL2 := hid hL2
  have HL1 := hid (HL.out.fr hfk.out)
  refine Calls.mono (trim_any [A % x] rfl hL2) ?_
  rintro e w1 ⟨rfl, hF⟩
  have HL3 := hid (HL2.out.fr hF).trim
  have HL4 := hid (HL1.out.fr hF)
  have H1 := H.step hF (by simp)
  clear H hF hL2
  have H := H1
  clear H1
  have HV : Hid (val [A % x] = A % x) := hid (by simp [val])
  rw [HV.out] at HL3 ⊢
  go_wp2_with (first | refine x_q H ?_ | refine x_cm (fun h => ?_) (fun h => ?_) | (revert H; (first | (refine x_g ?_; intro g w1 hg hf H) | (refine x_s ?_; intro w1 hf H)); (try (have hfk := hid hf; clear hf))))
  refine bodyPost_ret (results_tmp2 rfl _ _ _) rfl ?_
  rw [HB.out]
  exact ⟨p1, c1, _, _, rfl, H.fr, HL4.out, HL3.out⟩
end Go.Proofs.YthbeeeclgbpopaaGreatDoor
/-
  The integers: the division of magnitudes, the long way.
-/
namespace Go.Proofs.YthbeeeclgbpopaaGreatDoor
open Go.RowKit
set_option linter.unusedSimpArgs false
set_option linter.unusedVariables false
/-- The shift that lays a top limb's highest bit at the front. -/
theorem norm_top {x : Nat} (h0 : x ≠ 0) (hx : x < 4294967296) : 2147483648 ≤ x * 2 ^ (32 - bl x) ∧ x * 2 ^ (32 - bl x) < 4294967296 := by
  obtain ⟨a1, a2⟩ := bl_ge h0
  have a3 := bl_lt x
  have a4 := bl_32 hx
  have e1 : 2 ^ (bl x - 1) * 2 ^ (32 - bl x) = 2147483648 := by
    rw [← Nat.pow_add, show bl x - 1 + (32 - bl x) = 31 by omega]
  have e2 : 2 ^ bl x * 2 ^ (32 - bl x) = 4294967296 := by
    rw [← Nat.pow_add, show bl x + (32 - bl x) = 32 by omega]
  constructor
  · rw [← e1]; exact Nat.mul_le_mul_right _ a1
  · rw [← e2]; exact Nat.mul_lt_mul_of_pos_right a3 (Nat.two_pow_pos _)
/-- A divisor so shifted has as many limbs as ever. -/
theorem norm_len {B n x : Nat} (hn : (digs B).length = n + 1) (hx : (digs B)[n]? = some x) : (digs (B * 2 ^ (32 - bl x))).length = n + 1 := by
  have hx0 := digs_last B x (by rw [hn, Nat.add_sub_cancel]; exact hx)
  have hxB := (digs_lim B).at hx
  obtain ⟨h1, h2⟩ := norm_top hx0 hxB
  have hv := val_split (digs B) n
  rw [Nat.min_eq_left (by omega), val_digs, val_drop hx, List.drop_eq_nil_of_le (by omega), val_nil] at hv
  have ht := val_lt ((digs_lim B).take n)
  rw [List.length_take, Nat.min_eq_left (by omega)] at ht
  have a3 := bl_lt x
  have a4 := bl_32 hxB
  have hs := Nat.two_pow_pos (32 - bl x)
  generalize val ((digs B).take n) = T at *
  have hP : 0 < 4294967296 ^ n := Nat.pow_pos (by decide)
  have e1 : 4294967296 ^ n * (x + 1) ≤ 4294967296 ^ n * 2 ^ bl x := Nat.mul_le_mul_left _ a3
  rw [Nat.mul_add, Nat.mul_one] at e1
  have e0 : x + 4294967296 * 0 = x := by omega
  rw [e0] at hv
  have hB : B < 4294967296 ^ n * 2 ^ bl x := by omega
  apply Nat.le_antisymm
  · apply digs_len_of
    have e2 : B * 2 ^ (32 - bl x) < 4294967296 ^ n * 2 ^ bl x * 2 ^ (32 - bl x) := Nat.mul_lt_mul_of_pos_right hB hs
    rw [Nat.mul_assoc, ← Nat.pow_add, show bl x + (32 - bl x) = 32 by omega] at e2
    rw [Nat.pow_succ]
    exact e2
  · apply Classical.byContradiction
    intro hlt
    have e3 := digs_lt (B * 2 ^ (32 - bl x))
    have e4 : 4294967296 ^ (digs (B * 2 ^ (32 - bl x))).length ≤ 4294967296 ^ n := Nat.pow_le_pow_right (by decide) (by omega)
    have e5 : 4294967296 ^ n * 1 ≤ 4294967296 ^ n * x := Nat.mul_le_mul_left _ (by omega)
    have e6 : B * 1 ≤ B * 2 ^ (32 - bl x) := Nat.mul_le_mul_left _ hs
    omega
/-- The top limb of a divisor so shifted is not zero. -/
theorem norm_nz {C n : Nat} (hn : (digs C).length = n + 1) : (digs C)[n]? ≠ some 0 := fun h => digs_last C 0 (by rw [hn, Nat.add_sub_cancel]; exact h) rfl
end Go.Proofs.YthbeeeclgbpopaaGreatDoor
/-
  The integers: one round of the long division, plain.
-/
namespace Go.Proofs.YthbeeeclgbpopaaGreatDoor
open Go.RowKit
set_option linter.unusedSimpArgs false
set_option linter.unusedVariables false
theorem long_round {V Q R u S : Nat} (hS : S = u + 4294967296 * R) : u + 4294967296 * (V * Q + R) = V * (S / V + 4294967296 * Q) + S % V := by
  have h1 := Nat.div_add_mod S V
  rw [Nat.mul_add, Nat.mul_add, Nat.mul_left_comm V]
  omega
theorem long_lt {V R u : Nat} (hu : u < 4294967296) (hR : R < V) : u + 4294967296 * R < 4294967296 * V := by omega
/-- What is left of the whole, once all limbs are passed. -/
theorem long_end {A B s Q R : Nat} (hB : 0 < B) (h : A * 2 ^ s = B * 2 ^ s * Q + R) (hR : R < B * 2 ^ s) : Q = A / B ∧ R / 2 ^ s = A % B := by
  have hs := Nat.two_pow_pos s
  have hV : 0 < B * 2 ^ s := Nat.mul_pos hB hs
  have h1 : A * 2 ^ s / (B * 2 ^ s) = Q := by
    rw [h, Nat.mul_add_div hV, Nat.div_eq_of_lt hR, Nat.add_zero]
  have h2 : A * 2 ^ s % (B * 2 ^ s) = R := by
    rw [h, Nat.mul_add_mod, Nat.mod_eq_of_lt hR]
  refine ⟨?_, ?_⟩
  · rw [← h1, scaled_div hs]
  · rw [← h2, scaled_mod hs]
theorem zeros_tail {l : List Nat} (h : ∀ (k x : Nat), l[k]? = some x → x = 0) : val l = 0 := by
  induction l with
  | nil => rfl
  | cons x l ih =>
    have h0 := h 0 x rfl
    have := ih (fun k y hk => h (k + 1) y hk)
    simp only [val, this, h0]
theorem norm_ge {B n x : Nat} (hn : (digs B).length = n + 1) (hx : (digs B)[n]? = some x) : 2147483648 * 4294967296 ^ n ≤ B * 2 ^ (32 - bl x) ∧ 32 - bl x ≤ 31 := by
  have hx0 := digs_last B x (by rw [hn, Nat.add_sub_cancel]; exact hx)
  obtain ⟨h1, _⟩ := norm_top hx0 ((digs_lim B).at hx)
  have hv := val_split (digs B) n
  rw [Nat.min_eq_left (by omega), val_digs, val_drop hx, List.drop_eq_nil_of_le (by omega), val_nil] at hv
  have e0 : x + 4294967296 * 0 = x := by omega
  rw [e0] at hv
  refine ⟨?_, by have := (bl_ge hx0).2; omega⟩
  have h2 : 4294967296 ^ n * x ≤ B := by omega
  have h3 : 4294967296 ^ n * x * 2 ^ (32 - bl x) ≤ B * 2 ^ (32 - bl x) := Nat.mul_le_mul_right _ h2
  have h4 : 4294967296 ^ n * 2147483648 ≤ 4294967296 ^ n * (x * 2 ^ (32 - bl x)) := Nat.mul_le_mul_left _ h1
  rw [← Nat.mul_assoc] at h4
  rw [Nat.mul_comm 2147483648]
  omega
theorem long_start {A V n mm s : Nat} (hA : A < 4294967296 ^ n) (hs : s ≤ 31) (hV : 2147483648 * 4294967296 ^ mm ≤ V) (hmn : mm ≤ n) : A * 2 ^ s < V * 4294967296 ^ (n - mm) := by
  have h1 : 2 ^ s ≤ 2 ^ 31 := Nat.pow_le_pow_right (by decide) hs
  have h2 : A * 2 ^ s < 4294967296 ^ n * 2 ^ s := Nat.mul_lt_mul_of_pos_right hA (Nat.two_pow_pos s)
  have h3 : 4294967296 ^ n * 2 ^ s ≤ 4294967296 ^ n * 2 ^ 31 := Nat.mul_le_mul_left _ h1
  have h4 : 2147483648 * 4294967296 ^ mm * 4294967296 ^ (n - mm) ≤ V * 4294967296 ^ (n - mm) := Nat.mul_le_mul_right _ hV
  rw [Nat.mul_assoc, ← Nat.pow_add, show mm + (n - mm) = n by omega, Nat.mul_comm] at h4
  exact Nat.lt_of_lt_of_le (Nat.lt_of_lt_of_le h2 h3) h4
end Go.Proofs.YthbeeeclgbpopaaGreatDoor
/-
  A known block that a callee has written.
-/
namespace Go.Proofs.YthbeeeclgbpopaaGreatDoor
open Go.RowKit
set_option linter.unusedSimpArgs false
set_option linter.unusedVariables false
theorem Hp.wrote {T : List Nat} {w0 w w' : World} {g g0 : Nat} {cs cs0 cs1 : List Value} {t t0 : TypeId} (H : Hp T w0 w [.blk g cs t, .blk g0 cs0 t0]) (hF : Fr [g0] w w') (hg : w'.heap[g0]? = some (.cells cs1.toArray t0 (0, 0))) : Hp T w0 w' [.blk g cs t, .blk g0 cs1 t0] := by
  have hn := H.nodup
  simp only [List.flatMap_cons, List.flatMap_nil, Ent.own, List.cons_append, List.nil_append, List.append_nil, List.nodup_cons, List.mem_cons, List.not_mem_nil, or_false] at hn
  have a1 := H.ok _ (.head _)
  have a2 := H.ok _ (.tail _ (.head _))
  refine ⟨H.fr.andThen hF (fun x hx => ?_), fun e he => ?_, by simpa [List.flatMap_cons, Ent.own] using hn.1⟩
  · simp only [List.mem_singleton] at hx; subst hx; exact a2.2
  · simp only [List.mem_cons, List.not_mem_nil, or_false] at he
    rcases he with rfl | rfl
    · exact ⟨hF.get a1.1 (by simpa using hn.1), a1.2⟩
    · exact ⟨hg, a2.2⟩
end Go.Proofs.YthbeeeclgbpopaaGreatDoor
/-
  The integers: what holds at the head of the long division's loop, plain.
-/
namespace Go.Proofs.YthbeeeclgbpopaaGreatDoor
open Go.RowKit
set_option linter.unusedSimpArgs false
set_option linter.unusedVariables false
structure Long (V m n : Nat) (U : List Nat) (i : Nat) (l o : List Nat) : Prop where
  hl : l.length = n + 1
  lim : Lim l
  ol : o.length = n + 1 - m
  olim : Lim o
  tk : l.take i = U.take i
  z : ∀ (k x : Nat), i + m ≤ k → l[k]? = some x → x = 0
  v : val (U.drop i) = V * val (o.drop i) + val (l.drop i)
  lt : val (l.drop i) < V
theorem long_ty {U : List Nat} {m n V : Nat} (hU : U.length = n + 1) (lU : Lim U) (hm : m ≤ n + 1) (hlt : val (U.drop (n + 1 - m)) < V) : Long V m n U (n + 1 - m) U (List.replicate (n + 1 - m) 0) where
  hl := hU
  lim := lU
  ol := List.length_replicate
  olim := Lim.zeros _
  tk := rfl
  z := fun k x hk hx => by
    have := (List.getElem?_eq_some_iff.1 hx).1
    omega
  v := by
    have e : (List.replicate (n + 1 - m) 0).drop (n + 1 - m) = [] := List.drop_eq_nil_of_le (by simp)
    rw [e, val_nil, Nat.mul_zero, Nat.zero_add]
  lt := hlt
theorem val_zero_of {l : List Nat} {i : Nat} (h : ∀ (k x : Nat), i ≤ k → l[k]? = some x → x = 0) : val (l.drop i) = 0 :=
  zeros_tail (fun k x hk => h (i + k) x (Nat.le_add_right _ _) (by rwa [List.getElem?_drop] at hk))
theorem Long.cut {V m n j : Nat} {U l o : List Nat} (h : Long V m n U (j + 1) l o) (hj : j + m ≤ n) :
    l = l.take j ++ (l.drop j).take (m + 1) ++ l.drop (j + (m + 1)) ∧ (l.take j).length = j ∧ ((l.drop j).take (m + 1)).length = m + 1 ∧ Lim ((l.drop j).take (m + 1)) ∧ val ((l.drop j).take (m + 1)) = val (l.drop j) ∧ val ((l.drop j).take (m + 1)) < 4294967296 * V := by
  have hl := h.hl
  have h1 : ((l.drop j).take (m + 1)).length = m + 1 := by rw [List.length_take, List.length_drop]; omega
  have h2 : val ((l.drop j).take (m + 1)) = val (l.drop j) := by
    have e := val_split (l.drop j) (m + 1)
    have hz : val (l.drop (j + (m + 1))) = 0 := val_zero_of (fun k x hk hx => h.z k x (by omega) hx)
    rw [List.drop_drop, hz, Nat.mul_zero, Nat.add_zero] at e
    exact e.symm
  refine ⟨?_, by rw [List.length_take]; omega, h1, (h.lim.drop _).take _, h2, ?_⟩
  · rw [← List.drop_drop, List.append_assoc, List.take_append_drop, List.take_append_drop]
  · rw [h2]
    obtain ⟨x, hx⟩ : ∃ x, l[j]? = some x := ⟨_, List.getElem?_eq_getElem (by omega)⟩
    rw [val_drop hx]
    exact long_lt (h.lim.at hx) h.lt
theorem Long.next {V m n j : Nat} {U l o sg : List Nat} (h : Long V m n U (j + 1) l o) (hj : j + m ≤ n) (hV : V ≤ 4294967296 ^ m) (hs : sg.length = m + 1) (ls : Lim sg) (hv : val sg = val ((l.drop j).take (m + 1)) % V) : Long V m n U j (l.take j ++ sg ++ l.drop (j + (m + 1))) (o.set j (val ((l.drop j).take (m + 1)) / V)) := by
  obtain ⟨hcut, c1, c2, c3, c4, c5⟩ := h.cut hj
  have hl := h.hl
  have hol := h.ol
  have hVp : 0 < V := by
    rcases Nat.eq_zero_or_pos V with e | e
    · rw [e] at c5; omega
    · exact e
  obtain ⟨x, hx⟩ : ∃ x, l[j]? = some x := ⟨_, List.getElem?_eq_getElem (by omega)⟩
  have hUj : U[j]? = some x := by
    have e := congrArg (·[j]?) h.tk
    simp only [List.getElem?_take] at e
    rw [if_pos (by omega), if_pos (by omega)] at e
    rw [← e, hx]
  have hmod : val sg < V := by rw [hv]; exact Nat.mod_lt _ hVp
  have hz2 : val (l.drop (j + (m + 1))) = 0 := val_zero_of (fun k x hk hx => h.z k x (by omega) hx)
  have hd : (l.take j ++ sg ++ l.drop (j + (m + 1))).drop j = sg ++ l.drop (j + (m + 1)) := by
    rw [List.append_assoc, List.drop_append_of_le_length (by omega), List.drop_eq_nil_of_le (by omega), List.nil_append]
  have hvd : val (sg ++ l.drop (j + (m + 1))) = val sg := by rw [val_app, hz2, Nat.mul_zero, Nat.add_zero]
  have hq : val ((l.drop j).take (m + 1)) / V < 4294967296 := Nat.div_lt_of_lt_mul (by rw [Nat.mul_comm]; exact c5)
  refine ⟨?_, ?_, ?_, h.olim.set _ hq, ?_, ?_, ?_, ?_⟩
  · rw [List.length_append, List.length_append, c1, hs, List.length_drop]; omega
  · exact ((h.lim.take _).app ls).app (h.lim.drop _)
  · rw [List.length_set]; exact hol
  · rw [List.append_assoc, List.take_append_of_le_length (by omega), List.take_of_length_le (by omega)]
    have e := congrArg (List.take j) h.tk
    rwa [List.take_take, List.take_take, Nat.min_eq_left (by omega)] at e
  · intro k y hk hy
    by_cases hkm : k = j + m
    · subst hkm
      rw [List.append_assoc, List.getElem?_append_right (by omega), c1, show j + m - j = m by omega, List.getElem?_append_left (by omega)] at hy
      rw [List.length_take] at c1
      have e1 := val_take_succ hy
      rw [List.take_of_length_le (by omega)] at e1
      rcases Nat.eq_zero_or_pos y with e | e
      · exact e
      · have e2 : 4294967296 ^ m * 1 ≤ 4294967296 ^ m * y := Nat.mul_le_mul_left _ e
        omega
    · rw [List.getElem?_append_right (by rw [List.length_append, c1, hs]; omega), List.length_append, c1, hs, List.getElem?_drop, show j + (m + 1) + (k - (j + (m + 1))) = k by omega] at hy
      exact h.z k y (by omega) hy
  · rw [hd, hvd, hv, drop_set _ _ _ (by omega), val_cons, val_drop hUj, h.v]
    exact long_round (by rw [c4, val_drop hx])
  · rw [hd, hvd]; exact hmod
theorem long_first {A B n mm s ul : Nat} (hA : A < 4294967296 ^ n) (hul : ul ≤ n + 1) (he : (digs (A * 2 ^ s)).length = ul) (hmn : mm + 1 ≤ n) (hB : 2147483648 * 4294967296 ^ mm ≤ B * 2 ^ s ∧ s ≤ 31) : Long (B * 2 ^ s) (mm + 1) n (digs (A * 2 ^ s) ++ List.replicate (n + 1 - ul) 0) (n - mm) (digs (A * 2 ^ s) ++ List.replicate (n + 1 - ul) 0) (List.replicate (n - mm) 0) := by
  have lU : Lim (digs (A * 2 ^ s) ++ List.replicate (n + 1 - ul) 0) := (digs_lim _).app (Lim.zeros _)
  have hv : val (digs (A * 2 ^ s) ++ List.replicate (n + 1 - ul) 0) = A * 2 ^ s := by rw [val_app, val_zeros, Nat.mul_zero, Nat.add_zero, val_digs]
  have h := long_ty (V := B * 2 ^ s) (m := mm + 1) (n := n) (by rw [List.length_append, he, List.length_replicate]; omega) lU (by omega) (by
    rw [← drop_div lU, hv, show n + 1 - (mm + 1) = n - mm by omega]
    exact Nat.div_lt_of_lt_mul (by rw [Nat.mul_comm (4294967296 ^ (n - mm))]; exact long_start hA hB.2 hB.1 (by omega)))
  rwa [show n + 1 - (mm + 1) = n - mm by omega] at h
theorem Long.whole {A B n mm s ul : Nat} {l o : List Nat} (hB : 0 < B) (h : Long (B * 2 ^ s) (mm + 1) n (digs (A * 2 ^ s) ++ List.replicate (n + 1 - ul) 0) 0 l o) (hmn : mm + 1 ≤ n) : val o = A / B ∧ val (l.take (mm + 1)) / 2 ^ s = A % B := by
  have h1 := h.v
  have h2 := h.lt
  rw [List.drop_zero, List.drop_zero, List.drop_zero, val_app, val_zeros, Nat.mul_zero, Nat.add_zero, val_digs] at h1
  rw [List.drop_zero] at h2
  have h3 : val (l.take (mm + 1)) = val l := by
    have e := val_split l (mm + 1)
    have hz : val (l.drop (mm + 1)) = 0 := val_zero_of (fun k x hk hx => h.z k x (by omega) hx)
    rw [hz, Nat.mul_zero, Nat.add_zero] at e
    exact e.symm
  rw [h3]
  exact long_end hB h1 h2
end Go.Proofs.YthbeeeclgbpopaaGreatDoor
