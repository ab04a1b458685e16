/-
  The law's forests: Word, Forest.
-/
import Derived.Test.YthlhjjokodmihaaPl7
import Derived.ProofKit
import Derived.OpenShut
import Derived.ShutString
import Derived.ChangeOld
import Derived.Below
namespace Go.Proofs.Ythlhjjokodmihaa
open Go.RowKit
set_option linter.unusedSimpArgs false
set_option linter.unusedVariables false
set_option maxHeartbeats 400000 in
theorem mod_big (a b : Int) (w : World) (h : 0 < b) (hb : b ≤ 9223372036854775807) :
    Calls Try.prog 13 #[.int .i64 a, .int .i64 b] w fun e w' => e = .returned (.int .i64 (a % 18446744073709551616 % b)) ∧ Fr [] w w' := by
  have h1 := Int.emod_nonneg (a % 18446744073709551616) (show b ≠ 0 by omega)
  have h2 := Int.emod_lt_of_pos (a % 18446744073709551616) h
  go_enter Try.func13, Try.ntmps13
  go_wp2_with (first | ((first | (refine is_load rfl ?_; refine wl_ev rfl (by first | exact c_ld H rfl rfl | exact c_ld0 H rfl rfl | exact c_ldz H rfl rfl | exact c_ldr H rfl rfl | exact c_ln H rfl rfl | exact c_lnp H rfl rfl | exact c_lnz H rfl rfl | exact c_lnr H rfl rfl) ?_) | (refine is_cmp rfl rfl ?_; first | (refine wl_ev rfl (by first | exact ev_cmpT rfl rfl rfl rfl | exact ev_cmpF rfl rfl rfl rfl | exact c_peq rfl rfl | exact c_pne rfl rfl | exact ev_strEq rfl rfl rfl | exact ev_strNe rfl rfl rfl) ?_) | (refine wl_cmp rfl rfl rfl rfl rfl (fun h => ?_) (fun h => ?_) <;> (simp only [cmpP] at h))) | (refine is_bin (op := .quo) rfl ?_; refine wl_ev rfl (ev_quo rfl rfl rfl) ?_) | (refine is_bin (op := .rem) rfl ?_; refine wl_ev rfl (ev_rem rfl rfl rfl) ?_) | (refine is_slice rfl ?_; refine wl_ev rfl (by first | exact c_ss rfl rfl | exact c_ssh rfl rfl rfl | exact c_ssl rfl rfl rfl | exact c_sslh rfl rfl rfl rfl | exact c_sa rfl rfl | exact c_sah rfl rfl rfl) ?_) | (refine is_build rfl ?_; refine wl_ev rfl (by first | exact c_sta rfl | exact c_stp rfl) ?_) | (refine is_indexAddr rfl ?_; refine wl_ev rfl (c_ix rfl rfl rfl) ?_)) <;> (simp only [nrm, ↓reduceIte, Nat.reduceAdd])) | (refine is_conv rfl ?_; first | fail | (refine wl_ev rfl (by first | exact c_cv rfl rfl | exact c_cv64 rfl rfl | exact c_cv32 rfl rfl | exact c_cv8 rfl rfl) ?_; (simp only [nrm, ↓reduceIte, Nat.reduceAdd]))) | ((first | (refine is_make rfl ?_; refine wl_rw rfl (fun K hK => c_mk H rfl rfl rfl (h := (fun g w1 hg hf H1 => hK _ _ ?_)))) | (refine is_buildSlice rfl ?_; first | (refine wl_rw rfl (fun K hK => c_s1t H rfl rfl rfl (h := (fun g w1 hg hf H1 => hK _ _ ?_)))) | (refine wl_rw rfl (fun K hK => c_s1c H rfl rfl (h := (fun g w1 hg hf H1 => hK _ _ ?_))))) | (refine is_alloc rfl ?_; refine wl_rw rfl (fun K hK => c_al H rfl (fun g w1 hg hf H1 => hK _ _ ?_))) | (refine is_box rfl ?_; first | (refine wl_rw rfl (fun K hK => la_boxN H rfl rfl (fun g w1 hg hf H1 => hK _ _ ?_))) | (refine wl_rw rfl (fun K hK => la_box1 H rfl rfl rfl (fun g w1 hg hf H1 => hK _ _ ?_)))) | (refine is_store rfl ?_; first | (refine wl_rw rfl (fun K hK => c_st H rfl rfl rfl (h := (fun w1 hf H1 => hK _ _ ?_)))) | (refine wl_rw rfl (fun K hK => c_stc H rfl rfl (h := (fun w1 hf H1 => hK _ _ ?_)))) | (refine wl_rw rfl (fun K hK => c_stn H rfl rfl rfl (h := (fun w1 hf H1 => hK _ _ ?_)))))); (clear hK K); (clear H; have H := H1; clear H1; (try dsimp only at H); (try clear hf)); (simp only [nrm, ↓reduceIte, Nat.reduceAdd])))
  (refine bodyPost_ret (results_tmp rfl _ _ _) rfl ?_)
  exact ⟨rfl, Fr.refl _ _⟩
theorem bits_rng (op : BinOp) (a b : Int) : 0 ≤ bits op .u64 a b ∧ bits op .u64 a b < 18446744073709551616 := by
  unfold bits
  simp only
  generalize (BitVec.toNat _ : Nat) = z
  simp only [IntKind.wrap, IntKind.bits, IntKind.signed]
  simp
  omega
def u64s (l : List Int) : List Value := l.map (Value.int .u64)
@[simp] theorem u64s_len (l : List Int) : (u64s l).length = l.length := by simp [u64s]
set_option maxHeartbeats 4000000 in
set_option maxRecDepth 100000 in
theorem word_any {w : World} {v : Value} (raw : List Int) (i : Nat) (hi : i ≤ 1000) (hr : SArg w v raw.length (u64s raw)) (hb : ∀ x ∈ raw, 0 ≤ x ∧ x < 18446744073709551616) :
    Calls Try.prog 29 #[v, .int .i64 i] w fun e w' => ∃ x : Int, e = .returned (.int .u64 x) ∧ Fr [] w w' ∧ 0 ≤ x ∧ x < 18446744073709551616 := by
  have hr' := hr
  obtain ⟨p, c, rfl, hpn, hlc, hcm, hrd⟩ := hr'
  have hcm9 : c ≤ 9223372036854775807 := hcm
  have hrd0 := hrd w (Fr.refl _ _)
  clear hrd hpn
  have H := Hp.start [] w
  by_cases h0 : raw.length = 0
  · have h1 : raw.length < 1 := by omega
    clear h0 hr hb hrd0
    go_enter Try.func29, Try.ntmps29
    go_wp2_with (first | ((first | (refine is_load rfl ?_; refine wl_ev rfl (by first | exact c_ld H rfl rfl | exact c_ld0 H rfl rfl | exact c_ldz H rfl rfl | exact c_ldr H rfl rfl) ?_) | (refine is_cmp rfl rfl ?_; first | (refine wl_ev rfl (by first | exact ev_cmpT rfl rfl rfl rfl | exact ev_cmpF rfl rfl rfl rfl) ?_) | (refine wl_cmp rfl rfl rfl rfl rfl (fun h => ?_) (fun h => ?_) <;> (simp only [cmpP] at h))) | (refine is_indexAddr rfl ?_; refine wl_ev rfl (c_ix rfl rfl rfl) ?_)) <;> (simp only [nrm, ↓reduceIte, Nat.reduceAdd])) | (refine is_conv rfl ?_; first | fail | (refine wl_ev rfl (by first | exact c_cv rfl rfl | exact c_cv64 rfl rfl | exact c_cv32 rfl rfl | exact c_cv8 rfl rfl) ?_; (simp only [nrm, ↓reduceIte, Nat.reduceAdd]))) )
    go_ret
    exact ⟨_, rfl, H.fr, bits_rng _ _ _⟩
  · obtain ⟨b0, off, rfl, hb0, hcell⟩ := hrd0.rng (by intro e; have := congrArg List.length e; rw [u64s_len, List.length_nil] at this; omega)
    have H := H.pushRng (b := b0) (off := off) (cs := u64s raw) hb0 (by simp) hcell
    obtain ⟨m, hm, hml⟩ := mod_nat i raw.length (by omega)
    obtain ⟨x, hx⟩ : ∃ x, raw[m]? = some x := ⟨_, List.getElem?_eq_getElem hml⟩
    have hxv : (u64s raw)[m]? = some (.int .u64 x) := by simp [u64s, hx]
    have hx64 := hb x (List.mem_of_getElem? hx)
    obtain ⟨hx1, hx2⟩ := hx64
    have Hm := hid hm
    have h1 : 0 < raw.length := by omega
    clear hm hx hr hb hcell h0 hrd0
    go_enter Try.func29, Try.ntmps29
    go_wp2_with (first | ((first | (refine is_load rfl ?_; refine wl_ev rfl (by first | exact c_ld H rfl rfl | exact c_ld0 H rfl rfl | exact c_ldz H rfl rfl | exact c_ldr H rfl rfl) ?_) | (refine is_cmp rfl rfl ?_; first | (refine wl_ev rfl (by first | exact ev_cmpT rfl rfl rfl rfl | exact ev_cmpF rfl rfl rfl rfl) ?_) | (refine wl_cmp rfl rfl rfl rfl rfl (fun h => ?_) (fun h => ?_) <;> (simp only [cmpP] at h))) | (refine is_indexAddr rfl ?_; refine wl_ev rfl (c_ix rfl rfl rfl) ?_)) <;> (simp only [nrm, ↓reduceIte, Nat.reduceAdd])) | (refine is_conv rfl ?_; first | fail | (refine wl_ev rfl (by first | exact c_cv rfl rfl | exact c_cv64 rfl rfl | exact c_cv32 rfl rfl | exact c_cv8 rfl rfl) ?_; (simp only [nrm, ↓reduceIte, Nat.reduceAdd]))) )
    (refine Calls.mono (mod_big i raw.length _ (by omega) (by omega)) ?_; rintro e w1 ⟨rfl, hF⟩; have H1 := H.step hF (by simp); clear H; have H := H1; clear H1)
    rw [Hm.out]
    go_wp2_with (first | ((first | (refine is_load rfl ?_; refine wl_ev rfl (by first | exact c_ld H rfl rfl | exact c_ld0 H rfl rfl | exact c_ldz H rfl rfl | exact c_ldr H rfl rfl) ?_) | (refine is_cmp rfl rfl ?_; first | (refine wl_ev rfl (by first | exact ev_cmpT rfl rfl rfl rfl | exact ev_cmpF rfl rfl rfl rfl) ?_) | (refine wl_cmp rfl rfl rfl rfl rfl (fun h => ?_) (fun h => ?_) <;> (simp only [cmpP] at h))) | (refine is_indexAddr rfl ?_; refine wl_ev rfl (c_ix rfl rfl rfl) ?_)) <;> (simp only [nrm, ↓reduceIte, Nat.reduceAdd])) | (refine is_conv rfl ?_; first | fail | (refine wl_ev rfl (by first | exact c_cv rfl rfl | exact c_cv64 rfl rfl | exact c_cv32 rfl rfl | exact c_cv8 rfl rfl) ?_; (simp only [nrm, ↓reduceIte, Nat.reduceAdd]))) )
    go_ret
    exact ⟨_, rfl, H.fr, bits_rng _ _ _⟩
end Go.Proofs.Ythlhjjokodmihaa
