/-
  The nil journal; the number of parts in the document.
-/
import Derived.Test.YtgnpgikbdomdpaaJn9
namespace Go.Proofs.Ytgnpgikbdomdpaa
open Go.RowKit
set_option linter.unusedSimpArgs false
set_option linter.unusedVariables false




set_option maxHeartbeats 400000 in
theorem jnil_append (d : Value) (w : World) : Calls Try.prog 28 #[.pointer none, d] w fun e w' => e = .returned (.int .i64 1) ∧ Fr [] w w' := by
  go_enter Try.func28, Try.ntmps28
  go_wp2
  go_ret
  exact ⟨rfl, Fr.refl _ _⟩
set_option maxHeartbeats 400000 in
theorem jnil_records (w : World) : Calls Try.prog 33 #[.pointer none] w fun e w' => e = .returned (.slice none 0 0) ∧ Fr [] w w' := by
  go_enter Try.func33, Try.ntmps33
  go_wp2
  go_ret
  exact ⟨rfl, Fr.refl _ _⟩
set_option maxHeartbeats 400000 in
theorem jnil_free (w : World) : Calls Try.prog 29 #[.pointer none] w fun e w' => e = .returned (.int .i64 0) ∧ Fr [] w w' := by
  go_enter Try.func29, Try.ntmps29
  go_wp2
  go_ret
  exact ⟨rfl, Fr.refl _ _⟩
set_option maxHeartbeats 400000 in
theorem jnil_flush (w : World) : Calls Try.prog 32 #[.pointer none] w fun e w' => e = .returned (.tuple #[]) ∧ Fr [] w w' := by
  go_enter Try.func32, Try.ntmps32
  go_wp2
  go_end0
  exact ⟨rfl, Fr.refl _ _⟩
set_option maxHeartbeats 400000 in
theorem open_nil (w : World) : Calls Try.prog 26 #[.pointer none] w fun e w' => e = .returned (.tuple #[.pointer none, .int .i64 1]) ∧ Fr [] w w' := by
  have H := Hp.start [] w
  go_enter Try.func26, Try.ntmps26
  go_wp2_with (first | ((first | (refine is_load rfl ?_; refine wl_ev rfl (by first | exact c_ld H rfl rfl | exact c_ld0 H rfl rfl | exact c_ldz H rfl rfl | exact c_ldr H rfl rfl | exact c_ln H rfl rfl | exact c_lnp H rfl rfl | exact c_lnz H rfl rfl | exact c_lnr H rfl rfl) ?_) | (refine is_cmp rfl rfl ?_; first | (refine wl_ev rfl (by first | exact c_seq rfl rfl | exact ev_cmpT rfl rfl rfl rfl | exact ev_cmpF rfl rfl rfl rfl | exact c_peq rfl rfl | exact c_pne rfl rfl | exact ev_strEq rfl rfl rfl | exact ev_strNe rfl rfl rfl) ?_) | (refine wl_cmp rfl rfl rfl rfl rfl (fun h => ?_) (fun h => ?_) <;> (simp only [cmpP] at h))) | (refine is_bin (op := .quo) rfl ?_; refine wl_ev rfl (ev_quo rfl rfl rfl) ?_) | (refine is_bin (op := .rem) rfl ?_; refine wl_ev rfl (ev_rem rfl rfl rfl) ?_) | (refine is_slice rfl ?_; refine wl_ev rfl (by first | exact c_ss rfl rfl | exact c_ssh rfl rfl rfl | exact c_ssl rfl rfl rfl | exact c_sslh rfl rfl rfl rfl | exact c_sa rfl rfl | exact c_sah rfl rfl rfl) ?_) | (refine is_build rfl ?_; refine wl_ev rfl (by first | exact c_sta rfl | exact c_stp rfl) ?_) | (refine is_indexAddr rfl ?_; refine wl_ev rfl (c_ix rfl rfl rfl) ?_)) <;> (simp only [nrm, ↓reduceIte, Nat.reduceAdd])) | (refine is_conv rfl ?_; first | fail | (refine wl_ev rfl (by first | exact c_cv rfl rfl | exact c_cv64 rfl rfl | exact c_cv32 rfl rfl | exact c_cv8 rfl rfl) ?_; (simp only [nrm, ↓reduceIte, Nat.reduceAdd]))) | ((first | (refine is_make rfl ?_; refine wl_rw rfl (fun K hK => c_mk H rfl rfl rfl (h := (fun g w1 hg hf H1 => hK _ _ ?_)))) | (refine is_buildSlice rfl ?_; first | (refine wl_rw rfl (fun K hK => c_s1t H rfl rfl rfl (h := (fun g w1 hg hf H1 => hK _ _ ?_)))) | (refine wl_rw rfl (fun K hK => c_s1c H rfl rfl (h := (fun g w1 hg hf H1 => hK _ _ ?_))))) | (refine is_alloc rfl ?_; refine wl_rw rfl (fun K hK => c_al H rfl (fun g w1 hg hf H1 => hK _ _ ?_))) | (refine is_box rfl ?_; first | (refine wl_rw rfl (fun K hK => la_boxN H rfl rfl (fun g w1 hg hf H1 => hK _ _ ?_))) | (refine wl_rw rfl (fun K hK => la_box1 H rfl rfl rfl (fun g w1 hg hf H1 => hK _ _ ?_)))) | (refine is_store rfl ?_; first | (refine wl_rw rfl (fun K hK => c_st H rfl rfl rfl (h := (fun w1 hf H1 => hK _ _ ?_)))) | (refine wl_rw rfl (fun K hK => c_stc H rfl rfl (h := (fun w1 hf H1 => hK _ _ ?_)))) | (refine wl_rw rfl (fun K hK => c_stn H rfl rfl rfl (h := (fun w1 hf H1 => hK _ _ ?_)))))); (clear hK K); (clear H; have H := H1; clear H1; (try dsimp only at H); (try clear hf)); (simp only [nrm, ↓reduceIte, Nat.reduceAdd])))
  go_ret2
  exact ⟨rfl, Fr.refl _ _⟩
set_option maxHeartbeats 4000000 in
theorem refParts_any (n : Nat) (w : World) (hn : n ≤ 1000000000) :
    Calls Try.prog 27 #[.int .i64 n] w fun e w' => e = .returned (.int .i64 (partsOf n)) ∧ Fr [] w w' := by
  go_enter Try.func27, Try.ntmps27
  go_wp2_with (first | ((first | (refine is_load rfl ?_; refine wl_ev rfl (by first | exact c_ld H rfl rfl | exact c_ld0 H rfl rfl | exact c_ldz H rfl rfl | exact c_ldr H rfl rfl | exact c_ln H rfl rfl | exact c_lnp H rfl rfl | exact c_lnz H rfl rfl | exact c_lnr H rfl rfl) ?_) | (refine is_cmp rfl rfl ?_; first | (refine wl_ev rfl (by first | exact c_seq rfl rfl | exact ev_cmpT rfl rfl rfl rfl | exact ev_cmpF rfl rfl rfl rfl | exact c_peq rfl rfl | exact c_pne rfl rfl | exact ev_strEq rfl rfl rfl | exact ev_strNe rfl rfl rfl) ?_) | (refine wl_cmp rfl rfl rfl rfl rfl (fun h => ?_) (fun h => ?_) <;> (simp only [cmpP] at h))) | (refine is_bin (op := .quo) rfl ?_; refine wl_ev rfl (ev_quo rfl rfl rfl) ?_) | (refine is_bin (op := .rem) rfl ?_; refine wl_ev rfl (ev_rem rfl rfl rfl) ?_) | (refine is_slice rfl ?_; refine wl_ev rfl (by first | exact c_ss rfl rfl | exact c_ssh rfl rfl rfl | exact c_ssl rfl rfl rfl | exact c_sslh rfl rfl rfl rfl | exact c_sa rfl rfl | exact c_sah rfl rfl rfl) ?_) | (refine is_build rfl ?_; refine wl_ev rfl (by first | exact c_sta rfl | exact c_stp rfl) ?_) | (refine is_indexAddr rfl ?_; refine wl_ev rfl (c_ix rfl rfl rfl) ?_)) <;> (simp only [nrm, ↓reduceIte, Nat.reduceAdd])) | (refine is_conv rfl ?_; first | fail | (refine wl_ev rfl (by first | exact c_cv rfl rfl | exact c_cv64 rfl rfl | exact c_cv32 rfl rfl | exact c_cv8 rfl rfl) ?_; (simp only [nrm, ↓reduceIte, Nat.reduceAdd]))) | ((first | (refine is_make rfl ?_; refine wl_rw rfl (fun K hK => c_mk H rfl rfl rfl (h := (fun g w1 hg hf H1 => hK _ _ ?_)))) | (refine is_buildSlice rfl ?_; first | (refine wl_rw rfl (fun K hK => c_s1t H rfl rfl rfl (h := (fun g w1 hg hf H1 => hK _ _ ?_)))) | (refine wl_rw rfl (fun K hK => c_s1c H rfl rfl (h := (fun g w1 hg hf H1 => hK _ _ ?_))))) | (refine is_alloc rfl ?_; refine wl_rw rfl (fun K hK => c_al H rfl (fun g w1 hg hf H1 => hK _ _ ?_))) | (refine is_box rfl ?_; first | (refine wl_rw rfl (fun K hK => la_boxN H rfl rfl (fun g w1 hg hf H1 => hK _ _ ?_))) | (refine wl_rw rfl (fun K hK => la_box1 H rfl rfl rfl (fun g w1 hg hf H1 => hK _ _ ?_)))) | (refine is_store rfl ?_; first | (refine wl_rw rfl (fun K hK => c_st H rfl rfl rfl (h := (fun w1 hf H1 => hK _ _ ?_)))) | (refine wl_rw rfl (fun K hK => c_stc H rfl rfl (h := (fun w1 hf H1 => hK _ _ ?_)))) | (refine wl_rw rfl (fun K hK => c_stn H rfl rfl rfl (h := (fun w1 hf H1 => hK _ _ ?_)))))); (clear hK K); (clear H; have H := H1; clear H1; (try dsimp only at H); (try clear hf)); (simp only [nrm, ↓reduceIte, Nat.reduceAdd])))
  all_goals
    (refine bodyPost_ret (results_tmp rfl _ _ _) rfl ?_)
    exact ⟨congrArg (fun z => Ending.returned (.int .i64 z)) (by unfold partsOf; omega), Fr.refl _ _⟩
theorem appE_big (n next len : Nat) (h : 1048576 < len) : appE n next len = 301 := by unfold appE; rw [if_pos h]
theorem append_at {w : World} {j b : Nat} {cur dur : List (List UInt8)} {pend : List (Nat × List UInt8)} {recs : List (List UInt8)} {next : Nat} {SJ SD : List Nat} (J : JAt j b recs next SJ w) (D : DRep w b cur dur pend SD) (hd : ∀ x ∈ SD, x ∉ SJ) (hnx : next ≤ cur.length) (hrl : recs.length ≤ 1000000) (hpl : pend.length ≤ 500000)
    (data : List UInt8) (n b0 off c : Nat) (hn : data.length = n) (hlc : n ≤ c) (hcm : c ≤ maxLen) (hr : ∀ w', Fr (SJ ++ SD) w w' → Rd w' (.slice (some ⟨b0, off, none⟩) n c) n (bytesV data)) :
    Calls Try.prog 28 #[.pointer (some ⟨j, 0, none⟩), .slice (some ⟨b0, off, none⟩) n c] w (AppPost j b cur dur pend recs next data SJ SD w) := by
  subst hn
  exact append_any J D hd hnx hrl hpl data b0 off c hlc hcm hr
/-- The records of one that is not empty, as blocks. -/
theorem Hp.recs1 {T : List Nat} {w0 w : World} {l : List Ent} {k : Nat} {S : List Nat} {v : Value} {r : List UInt8} (H : Hp T w0 w (.obj k S (RecsV v [r] S) :: l)) (hr : r.length ≠ 0) : ∃ g cap pad g2 cap2 pad2, v = .slice (some ⟨g, 0, none⟩) 1 cap ∧ Hp T w0 w (.blk g (.slice (some ⟨g2, 0, none⟩) r.length cap2 :: pad) 33 :: .blk g2 (bytesV r ++ pad2) 5 :: l) := by
  obtain ⟨hs, S1, S2, hS, h1, h2, h3⟩ := H.recsV k
  have hhs : ∃ u, hs = [u] := by
    have := h3.len
    match hs, this with
    | [u], _ => exact ⟨u, rfl⟩
  obtain ⟨u, rfl⟩ := hhs
  obtain ⟨S3, S4, rfl, h4, h5⟩ := h3
  have h5' : S4 = [] := h5
  subst h5'
  obtain ⟨_, ⟨rfl, h6, _⟩ | ⟨g, cap, pad, rfl, rfl, h7, h8, h9, h10⟩⟩ := h2
  · simp at h6
  obtain ⟨_, ⟨rfl, h6, _⟩ | ⟨g2, cap2, pad2, rfl, rfl, h7', h8', h9', h10'⟩⟩ := h4
  · exact absurd h6 hr
  refine ⟨g, cap, pad, g2, cap2, pad2, rfl, ?_⟩
  subst hS
  have hh := (H.ok _ (.head _)).2.2
  exact Hp.front (lo := [.obj k _ _]) H ((Fr.refl _ _)) [.blk g _ _, .blk g2 _ _] (fun e he => by
    simp only [List.mem_cons, List.not_mem_nil, or_false] at he
    rcases he with rfl | rfl
    · exact ⟨by simpa using h10, hh g (by simp)⟩
    · exact ⟨h10', hh g2 (by simp)⟩) (by simpa [Ent.own] using h1) (fun x hx => .inl (by simpa [Ent.own] using hx))
end Go.Proofs.Ytgnpgikbdomdpaa
