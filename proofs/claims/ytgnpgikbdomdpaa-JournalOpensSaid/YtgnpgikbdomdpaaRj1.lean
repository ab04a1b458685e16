/-
  The document's journal: the block of a part; the record that begins at a block.
-/
import Derived.Test.YtgnpgikbdomdpaaSj
namespace Go.Proofs.Ytgnpgikbdomdpaa
open Go.RowKit
set_option linter.unusedSimpArgs false
set_option linter.unusedVariables false



set_option maxHeartbeats 4000000 in
set_option maxRecDepth 100000 in
theorem refBlock_any (r t p : Nat) (s : List UInt8) (w : World) (hr : r < 1000000000) (ht : t < 1000000000) (hp : p < 1000000000) (hs : s.length ≤ 1000000000) :
    Calls Try.prog 35 #[.int .i64 r, .int .i64 t, .int .i64 p, strV s] w fun e w' => e = .returned (strV (hdr r t p ++ s)) ∧ Fr [] w w' := by
  have H := Hp.start [] w
  have hh8 := hdr_len r t p
  have hz : (hdr r t p).length + s.length ≤ 1000000000000 := by omega
  have Hz := hid hz; clear hz hh8
  go_enter Try.func35, Try.ntmps35
  go_wp2_with (first | ((first | (refine is_load rfl ?_; refine wl_ev rfl (by first | exact c_ld H rfl rfl | exact c_ld0 H rfl rfl | exact c_ldz H rfl rfl | exact c_ldr H rfl rfl | exact c_ln H rfl rfl | exact c_lnp H rfl rfl | exact c_lnz H rfl rfl | exact c_lnr H rfl rfl) ?_) | (refine is_cmp rfl rfl ?_; first | (refine wl_ev rfl (by first | exact c_seq rfl rfl | exact ev_cmpT rfl rfl rfl rfl | exact ev_cmpF rfl rfl rfl rfl | exact c_peq rfl rfl | exact c_pne rfl rfl | exact ev_strEq rfl rfl rfl | exact ev_strNe rfl rfl rfl) ?_) | (refine wl_cmp rfl rfl rfl rfl rfl (fun h => ?_) (fun h => ?_) <;> (simp only [cmpP] at h))) | (refine is_bin (op := .quo) rfl ?_; refine wl_ev rfl (ev_quo rfl rfl rfl) ?_) | (refine is_bin (op := .rem) rfl ?_; refine wl_ev rfl (ev_rem rfl rfl rfl) ?_) | (refine is_slice rfl ?_; refine wl_ev rfl (by first | exact c_ss rfl rfl | exact c_ssh rfl rfl rfl | exact c_ssl rfl rfl rfl | exact c_sslh rfl rfl rfl rfl | exact c_sa rfl rfl | exact c_sah rfl rfl rfl) ?_) | (refine is_build rfl ?_; refine wl_ev rfl (by first | exact c_sta rfl | exact c_stp rfl) ?_) | (refine is_indexAddr rfl ?_; refine wl_ev rfl (c_ix rfl rfl rfl) ?_)) <;> (simp only [nrm, ↓reduceIte, Nat.reduceAdd])) | (refine is_conv rfl ?_; first | (refine wl_ev rfl (ev_bytesStrT rfl rfl Try.underlying33 Try.underlying9 Try.underlying5 (H.rd (b := g) (off := 0) (vs := bytesV (hdr r t p)) (by rw [hdr_val r t p (by omega)]; exact List.prefix_rfl))) ?_; (simp only [nrm, ↓reduceIte, Nat.reduceAdd])) | (refine wl_ev rfl (by first | exact c_cv rfl rfl | exact c_cv64 rfl rfl | exact c_cv32 rfl rfl | exact c_cv8 rfl rfl) ?_; (simp only [nrm, ↓reduceIte, Nat.reduceAdd]))) | ((first | (refine is_make rfl ?_; refine wl_rw rfl (fun K hK => c_mk H rfl rfl rfl (h := (fun g w1 hg hf H1 => hK _ _ ?_)))) | (refine is_buildSlice rfl ?_; first | (refine wl_rw rfl (fun K hK => c_s1t H rfl rfl rfl (h := (fun g w1 hg hf H1 => hK _ _ ?_)))) | (refine wl_rw rfl (fun K hK => c_s1c H rfl rfl (h := (fun g w1 hg hf H1 => hK _ _ ?_))))) | (refine is_alloc rfl ?_; refine wl_rw rfl (fun K hK => c_al H rfl (fun g w1 hg hf H1 => hK _ _ ?_))) | (refine is_box rfl ?_; first | (refine wl_rw rfl (fun K hK => la_boxN H rfl rfl (fun g w1 hg hf H1 => hK _ _ ?_))) | (refine wl_rw rfl (fun K hK => la_box1 H rfl rfl rfl (fun g w1 hg hf H1 => hK _ _ ?_)))) | (refine is_store rfl ?_; first | (refine wl_rw rfl (fun K hK => c_st H rfl rfl rfl (h := (fun w1 hf H1 => hK _ _ ?_)))) | (refine wl_rw rfl (fun K hK => c_stc H rfl rfl (h := (fun w1 hf H1 => hK _ _ ?_)))) | (refine wl_rw rfl (fun K hK => c_stn H rfl rfl rfl (h := (fun w1 hf H1 => hK _ _ ?_)))))); (clear hK K); (clear H; have H := H1; clear H1; (try dsimp only at H); (try clear hf)); (simp only [nrm, ↓reduceIte, Nat.reduceAdd])) | (refine is_buildSlice rfl ?_; refine wl_rw rfl (fun K hK => c_sN H rfl (by repeat first | exact .nil _ | apply Parts.tmp (by rfl) (by rfl) | apply Parts.con (by rfl)) rfl (by intro c hc; simp only [List.mem_cons, List.not_mem_nil, or_false] at hc; (try (rcases hc with rfl | rfl | rfl | rfl | rfl | rfl | rfl | rfl <;> rfl))) (by decide) (by decide) (fun g w1 hg hf H1 => hK _ _ ?_)); (clear hK K); (clear H; have H := H1; clear H1; (try dsimp only at H); (try clear hf)); (simp only [nrm, ↓reduceIte, Nat.reduceAdd])) | (refine is_bin (op := .add) rfl ?_; refine wl_ev rfl (ev_strAdd rfl rfl rfl Hz.out) ?_; (simp only [nrm, ↓reduceIte, Nat.reduceAdd])))
  (refine bodyPost_ret (results_tmp rfl _ _ _) rfl ?_)
  exact ⟨rfl, H.fr⟩
end Go.Proofs.Ytgnpgikbdomdpaa
