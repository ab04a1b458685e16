/-
  The integers: FromInt, the program's and the document's.
-/
import Derived.Test.YtpmebjhlgdhchaaDoorIw13
import Derived.Deep.DeepCutAuto
import Derived.Deep.CutBlock
namespace Go.Proofs.YtpmebjhlgdhchaaDoor
open Go.RowKit
set_option linter.unusedSimpArgs false
set_option linter.unusedVariables false
set_option maxHeartbeats 4000000
set_option maxRecDepth 100000
theorem zv_two (neg : Bool) (M : Nat) (hM : M < 18446744073709551616) : zv neg [M % 4294967296, M / 4294967296] = if neg then -(M : Int) else (M : Int) := by
  have : val [M % 4294967296, M / 4294967296] = M := by simp only [val]; omega
  unfold zv; rw [this]
theorem two_lr {w : World} {g : Nat} {M : Nat} {x y : Int} {t : TypeId} (h : w.heap[g]? = some (.cells [[Value.int .u32 x], [Value.int .u32 y]].flatten.toArray t (0, 0))) (hM : M < 18446744073709551616) (hx : x = ((M % 4294967296 : Nat) : Int)) (hy : y = ((M / 4294967296 : Nat) : Int)) : LR w (some ⟨g, 0, none⟩) 2 [M % 4294967296, M / 4294967296] := by
  subst hx hy
  exact LR.of_blk (pad := []) (by simpa [limbs] using h) (Lim.cons (by omega) (Lim.cons (by omega) Lim.nil)) (by simp) (by unfold maxLen; omega)
theorem fromInt_any (w : World) (z : Int) (hz : inr .i64 z) :
    Calls Tryd.prog 25 #[.int .i64 z] w fun e w' => Big e w w' z := by
  have H := Hp.start [] w
  have hz' : -9223372036854775808 ≤ z ∧ z ≤ 9223372036854775807 := hz
  by_cases h0 : z < 0
  · have HD := hid (decide_eq_true h0)
    go_enter Tryd.func25, Tryd.ntmps25
    go_wp2_with (first | refine x_q H ?_ | refine x_cm (fun h => ?_) (fun h => ?_) | refine x_e (ev_low rfl rfl) ?_ | refine x_e (ev_high rfl rfl) ?_ | (refine is_buildSlice rfl ?_; refine wl_rw rfl (fun K hK => c_sN H rfl (by repeat first | exact .nil _ | apply Parts.tmp (by rfl) (by rfl) | apply Parts.con (by rfl)) rfl (by intro c hc; simp only [List.mem_cons, List.not_mem_nil, or_false] at hc; (try (rcases hc with rfl | rfl | rfl | rfl | rfl | rfl | rfl | rfl <;> rfl))) (by decide) (by decide) (fun g w1 hg hf H1 => hK _ _ ?_)); (clear hK K); (clear H; have H := H1; clear H1; (try dsimp only at H); (try clear hf)); (simp only [nrm, ↓reduceIte, Nat.reduceAdd])) | (revert H; first | (refine x_g ?_; intro g w1 hg hf H) | (refine x_s ?_; intro w1 hf H); (try clear hf)))
    obtain ⟨M, hMz⟩ : ∃ M : Nat, z = -(M : Int) := ⟨(-z).toNat, by omega⟩
    have hM : M < 18446744073709551616 := by omega
    have e : IntKind.u64.wrap (-(z % 18446744073709551616)) = (M : Int) := by rw [IntKind.wrap_u64]; omega
    have HZ : Hid (zv true [M % 4294967296, M / 4294967296] = z) := hid (by rw [zv_two _ _ hM, hMz]; rfl)
    clear hMz
    refine Calls.mono (big_any true [M % 4294967296, M / 4294967296] rfl  (two_lr (H.at g) hM (by rw [e, low_nat hM]) (by rw [e]; omega))) ?_
    rintro e w1 ⟨p3, c3, rfl, hF, hL⟩
    rw [HZ.out] at hL ⊢
    have HB2 := hid hL
    have H1 := H.step hF (by simp)
    clear H hF hL
    have H := H1
    clear H1
    go_wp2_with (first | refine x_q H ?_ | refine x_cm (fun h => ?_) (fun h => ?_) | (revert H; refine x_s2 ?_; intro w1 hf H hk; have hk2 := hid hk; clear hk; (try clear hf)) | (revert H; first | (refine x_g ?_; intro g w1 hg hf H) | (refine x_s ?_; intro w1 hf H); (try clear hf)))
    refine c_post H rfl rfl rfl ?_
    exact ⟨p3, c3, by rw [HD.out], H.fr, hk2.out _ _ _ HB2.out⟩
  · have HD := hid (decide_eq_false h0)
    go_enter Tryd.func25, Tryd.ntmps25
    go_wp2_with (first | refine x_q H ?_ | refine x_cm (fun h => ?_) (fun h => ?_) | refine x_e (ev_low rfl rfl) ?_ | refine x_e (ev_high rfl rfl) ?_ | (refine is_buildSlice rfl ?_; refine wl_rw rfl (fun K hK => c_sN H rfl (by repeat first | exact .nil _ | apply Parts.tmp (by rfl) (by rfl) | apply Parts.con (by rfl)) rfl (by intro c hc; simp only [List.mem_cons, List.not_mem_nil, or_false] at hc; (try (rcases hc with rfl | rfl | rfl | rfl | rfl | rfl | rfl | rfl <;> rfl))) (by decide) (by decide) (fun g w1 hg hf H1 => hK _ _ ?_)); (clear hK K); (clear H; have H := H1; clear H1; (try dsimp only at H); (try clear hf)); (simp only [nrm, ↓reduceIte, Nat.reduceAdd])) | (revert H; first | (refine x_g ?_; intro g w1 hg hf H) | (refine x_s ?_; intro w1 hf H); (try clear hf)))
    obtain ⟨M, hMz⟩ : ∃ M : Nat, z = (M : Int) := ⟨z.toNat, by omega⟩
    have hM : M < 18446744073709551616 := by omega
    have HZ : Hid (zv false [M % 4294967296, M / 4294967296] = z) := hid (by rw [zv_two _ _ hM, hMz]; rfl)
    have e1 : z % 4294967296 = ((M % 4294967296 : Nat) : Int) := by omega
    have e2 : z / 4294967296 = ((M / 4294967296 : Nat) : Int) := by omega
    clear hMz
    refine Calls.mono (big_any false [M % 4294967296, M / 4294967296] rfl  (two_lr (H.at g) hM e1 e2)) ?_
    rintro e w1 ⟨p3, c3, rfl, hF, hL⟩
    rw [HZ.out] at hL ⊢
    have HB2 := hid hL
    have H1 := H.step hF (by simp)
    clear H hF hL
    have H := H1
    clear H1
    go_wp2_with (first | refine x_q H ?_ | refine x_cm (fun h => ?_) (fun h => ?_) | (revert H; refine x_s2 ?_; intro w1 hf H hk; have hk2 := hid hk; clear hk; (try clear hf)) | (revert H; first | (refine x_g ?_; intro g w1 hg hf H) | (refine x_s ?_; intro w1 hf H); (try clear hf)))
    refine c_post H rfl rfl rfl ?_
    exact ⟨p3, c3, by rw [HD.out], H.fr, hk2.out _ _ _ HB2.out⟩
theorem rfromInt_any (w : World) (z : Int) (hz : inr .i64 z) :
    Calls Tryd.prog 26 #[.int .i64 z] w fun e w' => Big e w w' z := by
  have H := Hp.start [] w
  have hz' : -9223372036854775808 ≤ z ∧ z ≤ 9223372036854775807 := hz
  by_cases h0 : z < 0
  · have HD := hid (decide_eq_true h0)
    go_enter Tryd.func26, Tryd.ntmps26
    go_wp2_with (first | refine x_q H ?_ | refine x_cm (fun h => ?_) (fun h => ?_) | refine x_e (ev_low rfl rfl) ?_ | refine x_e (ev_high rfl rfl) ?_ | (refine is_buildSlice rfl ?_; refine wl_rw rfl (fun K hK => c_sN H rfl (by repeat first | exact .nil _ | apply Parts.tmp (by rfl) (by rfl) | apply Parts.con (by rfl)) rfl (by intro c hc; simp only [List.mem_cons, List.not_mem_nil, or_false] at hc; (try (rcases hc with rfl | rfl | rfl | rfl | rfl | rfl | rfl | rfl <;> rfl))) (by decide) (by decide) (fun g w1 hg hf H1 => hK _ _ ?_)); (clear hK K); (clear H; have H := H1; clear H1; (try dsimp only at H); (try clear hf)); (simp only [nrm, ↓reduceIte, Nat.reduceAdd])) | (revert H; first | (refine x_g ?_; intro g w1 hg hf H) | (refine x_s ?_; intro w1 hf H); (try clear hf)))
    obtain ⟨M, hMz⟩ : ∃ M : Nat, z = -(M : Int) := ⟨(-z).toNat, by omega⟩
    have hM : M < 18446744073709551616 := by omega
    have e1 : (-(z + 1) + 1) % 4294967296 = ((M % 4294967296 : Nat) : Int) := by omega
    have e2 : (-(z + 1) + 1) / 4294967296 = ((M / 4294967296 : Nat) : Int) := by omega
    have HZ : Hid (zv true [M % 4294967296, M / 4294967296] = z) := hid (by rw [zv_two _ _ hM, hMz]; rfl)
    clear hMz
    refine Calls.mono (make1_any true [M % 4294967296, M / 4294967296] rfl (by simp) (two_lr (H.at g) hM e1 e2)) ?_
    rintro e w1 ⟨p3, c3, rfl, hF, hL⟩
    rw [HZ.out] at hL ⊢
    have HB2 := hid hL
    have H1 := H.step hF (by simp)
    clear H hF hL
    have H := H1
    clear H1
    go_wp2_with (first | refine x_q H ?_ | refine x_cm (fun h => ?_) (fun h => ?_) | (revert H; refine x_s2 ?_; intro w1 hf H hk; have hk2 := hid hk; clear hk; (try clear hf)) | (revert H; first | (refine x_g ?_; intro g w1 hg hf H) | (refine x_s ?_; intro w1 hf H); (try clear hf)))
    refine c_post H rfl rfl rfl ?_
    exact ⟨p3, c3, by rw [HD.out], H.fr, hk2.out _ _ _ HB2.out⟩
  · have HD := hid (decide_eq_false h0)
    go_enter Tryd.func26, Tryd.ntmps26
    go_wp2_with (first | refine x_q H ?_ | refine x_cm (fun h => ?_) (fun h => ?_) | refine x_e (ev_low rfl rfl) ?_ | refine x_e (ev_high rfl rfl) ?_ | (refine is_buildSlice rfl ?_; refine wl_rw rfl (fun K hK => c_sN H rfl (by repeat first | exact .nil _ | apply Parts.tmp (by rfl) (by rfl) | apply Parts.con (by rfl)) rfl (by intro c hc; simp only [List.mem_cons, List.not_mem_nil, or_false] at hc; (try (rcases hc with rfl | rfl | rfl | rfl | rfl | rfl | rfl | rfl <;> rfl))) (by decide) (by decide) (fun g w1 hg hf H1 => hK _ _ ?_)); (clear hK K); (clear H; have H := H1; clear H1; (try dsimp only at H); (try clear hf)); (simp only [nrm, ↓reduceIte, Nat.reduceAdd])) | (revert H; first | (refine x_g ?_; intro g w1 hg hf H) | (refine x_s ?_; intro w1 hf H); (try clear hf)))
    obtain ⟨M, hMz⟩ : ∃ M : Nat, z = (M : Int) := ⟨z.toNat, by omega⟩
    have hM : M < 18446744073709551616 := by omega
    have HZ : Hid (zv false [M % 4294967296, M / 4294967296] = z) := hid (by rw [zv_two _ _ hM, hMz]; rfl)
    have e1 : z % 4294967296 = ((M % 4294967296 : Nat) : Int) := by omega
    have e2 : z / 4294967296 = ((M / 4294967296 : Nat) : Int) := by omega
    clear hMz
    refine Calls.mono (make1_any false [M % 4294967296, M / 4294967296] rfl (by simp) (two_lr (H.at g) hM e1 e2)) ?_
    rintro e w1 ⟨p3, c3, rfl, hF, hL⟩
    rw [HZ.out] at hL ⊢
    have HB2 := hid hL
    have H1 := H.step hF (by simp)
    clear H hF hL
    have H := H1
    clear H1
    go_wp2_with (first | refine x_q H ?_ | refine x_cm (fun h => ?_) (fun h => ?_) | (revert H; refine x_s2 ?_; intro w1 hf H hk; have hk2 := hid hk; clear hk; (try clear hf)) | (revert H; first | (refine x_g ?_; intro g w1 hg hf H) | (refine x_s ?_; intro w1 hf H); (try clear hf)))
    refine c_post H rfl rfl rfl ?_
    exact ⟨p3, c3, by rw [HD.out], H.fr, hk2.out _ _ _ HB2.out⟩
end Go.Proofs.YtpmebjhlgdhchaaDoor
