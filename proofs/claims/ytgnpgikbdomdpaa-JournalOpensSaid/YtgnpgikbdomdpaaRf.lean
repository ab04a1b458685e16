/-
  The reference of package disk: what each of its functions does in memory.
-/
import Derived.Test.YtgnpgikbdomdpaaDk3
namespace Go.Proofs.Ytgnpgikbdomdpaa
open Go.RowKit
set_option linter.unusedSimpArgs false
set_option linter.unusedVariables false


def rwC (x : Nat × List UInt8) : List Value := [.int .i64 x.1, strV x.2]
theorem rwC_len (x : Nat × List UInt8) : (rwC x).length = 2 := rfl
def RPend (w : World) (pv : Value) (ps : List Nat) (pend : List (Nat × List UInt8)) : Prop :=
  (pend = [] ∧ pv = .slice none 0 0 ∧ ps = []) ∨ pend ≠ [] ∧ ∃ p cap pad, pv = .slice (some ⟨p, 0, none⟩) pend.length cap ∧ ps = [p] ∧ w.heap[p]? = some (.cells (pend.flatMap rwC ++ pad).toArray 94 (0, 0)) ∧ (pend.flatMap rwC ++ pad).length = cap * 2 ∧ cap ≤ maxLen
structure ROk (dur : List (List UInt8)) (pend : List (Nat × List UInt8)) : Prop where
  max : dur.length ≤ 65536
  idx : ∀ x ∈ pend, x.1 < dur.length
/-- The reference's disk behind the pointer to block b. -/
def RRep (w : World) (b : Nat) (dur : List (List UInt8)) (pend : List (Nat × List UInt8)) (S : List Nat) : Prop :=
  ROk dur pend ∧ ∃ c pv ps, S = b :: c :: ps ∧ S.Nodup ∧
    w.heap[b]? = some (.cells #[.slice (some ⟨c, 0, none⟩) dur.length dur.length, pv] 73 (0, 0)) ∧
    w.heap[c]? = some (.cells (dur.map strV).toArray 9 (0, 0)) ∧ RPend w pv ps pend
theorem RRep.lt {w : World} {b : Nat} {dur : List (List UInt8)} {pend : List (Nat × List UInt8)} {S : List Nat} (h : RRep w b dur pend S) : ∀ x ∈ S, x < w.heap.size := by
  obtain ⟨_, c, pv, ps, rfl, _, h1, h2, h4⟩ := h
  intro x hx
  simp only [List.mem_cons] at hx
  rcases hx with rfl | rfl | hx
  · exact lt_of_get h1
  · exact lt_of_get h2
  · rcases h4 with ⟨_, _, rfl⟩ | ⟨_, p, cap, pad, _, rfl, h5, _⟩
    · simp at hx
    · simp at hx; subst hx; exact lt_of_get h5
theorem RRep.fr {T : List Nat} {w w' : World} {b : Nat} {dur : List (List UInt8)} {pend : List (Nat × List UInt8)} {S : List Nat} (h : RRep w b dur pend S) (k : Fr T w w') (hn : ∀ x ∈ S, x ∉ T) : RRep w' b dur pend S := by
  obtain ⟨h0, c, pv, ps, rfl, hd, h1, h2, h4⟩ := h
  refine ⟨h0, c, pv, ps, rfl, hd, k.get h1 (hn _ (by simp)), k.get h2 (hn _ (by simp)), ?_⟩
  rcases h4 with h5 | ⟨h8, p, cap, pad, h5, rfl, h6, h7⟩
  · exact .inl h5
  · exact .inr ⟨h8, p, cap, pad, h5, rfl, k.get h6 (hn _ (by simp)), h7⟩

theorem RRep.nodup {w : World} {b : Nat} {dur : List (List UInt8)} {pend : List (Nat × List UInt8)} {S : List Nat} (h : RRep w b dur pend S) : S.Nodup := by
  obtain ⟨_, c, pv, ps, rfl, hd, _⟩ := h
  exact hd
instance {b : Nat} {dur : List (List UInt8)} {pend : List (Nat × List UInt8)} {S : List Nat} : Fm S (fun w => RRep w b dur pend S) := ⟨⟨fun _ _ _ k hn D => D.fr k hn, fun _ D => D.lt, fun _ D => D.nodup⟩⟩

set_option maxHeartbeats 400000 in
set_option maxRecDepth 100000 in
theorem refNew_any (n : Nat) (w : World) (h1 : n ≤ 65536) :
    Calls Try.prog 16 #[.int .i64 n] w fun e w' => ∃ b S, e = .returned (.tuple #[.pointer (some ⟨b, 0, none⟩), .int .i64 0]) ∧ Fr [] w w' ∧ RRep w' b (List.replicate n []) [] S ∧ ∀ x ∈ S, w.heap.size ≤ x := by
  have H := Hp.start [] w
  have hfl : (List.replicate n [strV []]).flatten = (List.replicate n ([] : List UInt8)).map strV := by
    rw [List.map_replicate]; induction n with
    | zero => rfl
    | succ n ih => simp [List.replicate_succ, ih (by omega)]
  have Hfl := hid hfl; clear hfl
  have hok : ROk (List.replicate n []) [] := ⟨by simpa using h1, by simp⟩
  have Hok := hid hok; clear hok
  go_enter Try.func16, Try.ntmps16
  go_wp2_with (first | ((first | (refine is_load rfl ?_; refine wl_ev rfl (by first | exact c_ld H rfl rfl | exact c_ld0 H rfl rfl | exact c_ldz H rfl rfl | exact c_ldr H rfl rfl | exact c_ln H rfl rfl | exact c_lnp H rfl rfl | exact c_lnz H rfl rfl | exact c_lnr H rfl rfl) ?_) | (refine is_cmp rfl rfl ?_; first | (refine wl_ev rfl (by first | exact ev_cmpT rfl rfl rfl rfl | exact ev_cmpF rfl rfl rfl rfl | exact c_peq rfl rfl | exact c_pne rfl rfl | exact ev_strEq rfl rfl rfl | exact ev_strNe rfl rfl rfl) ?_) | (refine wl_cmp rfl rfl rfl rfl rfl (fun h => ?_) (fun h => ?_) <;> (simp only [cmpP] at h))) | (refine is_bin (op := .quo) rfl ?_; refine wl_ev rfl (ev_quo rfl rfl rfl) ?_) | (refine is_bin (op := .rem) rfl ?_; refine wl_ev rfl (ev_rem rfl rfl rfl) ?_) | (refine is_slice rfl ?_; refine wl_ev rfl (by first | exact c_ss rfl rfl | exact c_ssh rfl rfl rfl | exact c_ssl rfl rfl rfl | exact c_sslh rfl rfl rfl rfl | exact c_sa rfl rfl | exact c_sah rfl rfl rfl) ?_) | (refine is_build rfl ?_; refine wl_ev rfl (by first | exact c_sta rfl | exact c_stp rfl) ?_) | (refine is_indexAddr rfl ?_; refine wl_ev rfl (c_ix rfl rfl rfl) ?_)) <;> (simp only [nrm, ↓reduceIte, Nat.reduceAdd])) | (refine is_conv rfl ?_; first | fail | (refine wl_ev rfl (by first | exact c_cv rfl rfl | exact c_cv64 rfl rfl | exact c_cv32 rfl rfl | exact c_cv8 rfl rfl) ?_; (simp only [nrm, ↓reduceIte, Nat.reduceAdd]))) | ((first | (refine is_make rfl ?_; refine wl_rw rfl (fun K hK => c_mk H rfl rfl rfl (h := (fun g w1 hg hf H1 => hK _ _ ?_)))) | (refine is_buildSlice rfl ?_; first | (refine wl_rw rfl (fun K hK => c_s1t H rfl rfl rfl (h := (fun g w1 hg hf H1 => hK _ _ ?_)))) | (refine wl_rw rfl (fun K hK => c_s1c H rfl rfl (h := (fun g w1 hg hf H1 => hK _ _ ?_))))) | (refine is_alloc rfl ?_; refine wl_rw rfl (fun K hK => c_al H rfl (fun g w1 hg hf H1 => hK _ _ ?_))) | (refine is_box rfl ?_; first | (refine wl_rw rfl (fun K hK => la_boxN H rfl rfl (fun g w1 hg hf H1 => hK _ _ ?_))) | (refine wl_rw rfl (fun K hK => la_box1 H rfl rfl rfl (fun g w1 hg hf H1 => hK _ _ ?_)))) | (refine is_store rfl ?_; first | (refine wl_rw rfl (fun K hK => c_st H rfl rfl rfl (h := (fun w1 hf H1 => hK _ _ ?_)))) | (refine wl_rw rfl (fun K hK => c_stc H rfl rfl (h := (fun w1 hf H1 => hK _ _ ?_)))) | (refine wl_rw rfl (fun K hK => c_stn H rfl rfl rfl (h := (fun w1 hf H1 => hK _ _ ?_)))))); (clear hK K); (clear H; have H := H1; clear H1; (try dsimp only at H); clear hf); (simp only [nrm, ↓reduceIte, Nat.reduceAdd])))
  go_ret2
  rw [Int.toNat_natCast, Hfl.out] at H
  (have hn := H.nodup; simp only [List.flatMap_cons, List.flatMap_nil, Ent.own, List.cons_append, List.nil_append, List.nodup_cons, List.mem_cons, List.not_mem_nil, or_false, not_or] at hn)
  refine ⟨_, _, rfl, H.fr, ⟨Hok.out, _, _, [], rfl, ?_, by simpa using H.get (.head _), H.get (.tail _ (.head _)), .inl ⟨rfl, rfl, rfl⟩⟩, ?_⟩ <;> simp <;> omega

set_option maxHeartbeats 400000 in
set_option maxRecDepth 100000 in
theorem refWrite_out {w : World} {b : Nat} {dur : List (List UInt8)} {pend : List (Nat × List UInt8)} {S : List Nat} (D : RRep w b dur pend S) (i : Int) (hi : i < 0 ∨ (dur.length : Int) ≤ i) (sl : Value) :
    Calls Try.prog 36 #[.pointer (some ⟨b, 0, none⟩), .int .i64 i, sl] w fun e w' => e = .returned (.int .i64 300) ∧ Fr [] w w' := by
  obtain ⟨h0, c, pv, ps, rfl, hd, h1, h2, h4⟩ := D
  have H := (Hp.start [] w).pushRng (b := b) (off := 0) (cs := [.slice (some ⟨c, 0, none⟩) dur.length dur.length, pv]) (lt_of_get h1) (by simp) (fun j u hj => by rw [cell_of_row w b _ _ _ _ h1]; simpa using hj)
  clear h1 h2 h4 hd h0
  by_cases hi0 : i < 0
  all_goals
    go_enter Try.func36, Try.ntmps36
    go_wp2_with (first | ((first | (refine is_load rfl ?_; refine wl_ev rfl (by first | exact c_ld H rfl rfl | exact c_ld0 H rfl rfl | exact c_ldz H rfl rfl | exact c_ldr H rfl rfl | exact c_ln H rfl rfl | exact c_lnp H rfl rfl | exact c_lnz H rfl rfl | exact c_lnr H rfl rfl) ?_) | (refine is_cmp rfl rfl ?_; first | (refine wl_ev rfl (by first | exact ev_cmpT rfl rfl rfl rfl | exact ev_cmpF rfl rfl rfl rfl | exact c_peq rfl rfl | exact c_pne rfl rfl | exact ev_strEq rfl rfl rfl | exact ev_strNe rfl rfl rfl) ?_) | (refine wl_cmp rfl rfl rfl rfl rfl (fun h => ?_) (fun h => ?_) <;> (simp only [cmpP] at h))) | (refine is_bin (op := .quo) rfl ?_; refine wl_ev rfl (ev_quo rfl rfl rfl) ?_) | (refine is_bin (op := .rem) rfl ?_; refine wl_ev rfl (ev_rem rfl rfl rfl) ?_) | (refine is_slice rfl ?_; refine wl_ev rfl (by first | exact c_ss rfl rfl | exact c_ssh rfl rfl rfl | exact c_ssl rfl rfl rfl | exact c_sslh rfl rfl rfl rfl | exact c_sa rfl rfl | exact c_sah rfl rfl rfl) ?_) | (refine is_build rfl ?_; refine wl_ev rfl (by first | exact c_sta rfl | exact c_stp rfl) ?_) | (refine is_indexAddr rfl ?_; refine wl_ev rfl (c_ix rfl rfl rfl) ?_)) <;> (simp only [nrm, ↓reduceIte, Nat.reduceAdd])) | (refine is_conv rfl ?_; first | fail | (refine wl_ev rfl (by first | exact c_cv rfl rfl | exact c_cv64 rfl rfl | exact c_cv32 rfl rfl | exact c_cv8 rfl rfl) ?_; (simp only [nrm, ↓reduceIte, Nat.reduceAdd]))) | ((first | (refine is_make rfl ?_; refine wl_rw rfl (fun K hK => c_mk H rfl rfl rfl (h := (fun g w1 hg hf H1 => hK _ _ ?_)))) | (refine is_buildSlice rfl ?_; first | (refine wl_rw rfl (fun K hK => c_s1t H rfl rfl rfl (h := (fun g w1 hg hf H1 => hK _ _ ?_)))) | (refine wl_rw rfl (fun K hK => c_s1c H rfl rfl (h := (fun g w1 hg hf H1 => hK _ _ ?_))))) | (refine is_alloc rfl ?_; refine wl_rw rfl (fun K hK => c_al H rfl (fun g w1 hg hf H1 => hK _ _ ?_))) | (refine is_box rfl ?_; first | (refine wl_rw rfl (fun K hK => la_boxN H rfl rfl (fun g w1 hg hf H1 => hK _ _ ?_))) | (refine wl_rw rfl (fun K hK => la_box1 H rfl rfl rfl (fun g w1 hg hf H1 => hK _ _ ?_)))) | (refine is_store rfl ?_; first | (refine wl_rw rfl (fun K hK => c_st H rfl rfl rfl (h := (fun w1 hf H1 => hK _ _ ?_)))) | (refine wl_rw rfl (fun K hK => c_stc H rfl rfl (h := (fun w1 hf H1 => hK _ _ ?_)))) | (refine wl_rw rfl (fun K hK => c_stn H rfl rfl rfl (h := (fun w1 hf H1 => hK _ _ ?_)))))); (clear hK K); (clear H; have H := H1; clear H1; (try dsimp only at H); clear hf); (simp only [nrm, ↓reduceIte, Nat.reduceAdd])))
    (refine bodyPost_ret (results_tmp rfl _ _ _) rfl ?_)
    exact ⟨rfl, H.fr⟩
set_option maxHeartbeats 400000 in
set_option maxRecDepth 100000 in
theorem refWrite_big {w : World} {b : Nat} {dur : List (List UInt8)} {pend : List (Nat × List UInt8)} {S : List Nat} (D : RRep w b dur pend S) (i : Int) (hi : 0 ≤ i) (hi1 : i < dur.length) (p : Option Addr) (n cp : Nat) (hn : 64 < n) :
    Calls Try.prog 36 #[.pointer (some ⟨b, 0, none⟩), .int .i64 i, .slice p n cp] w fun e w' => e = .returned (.int .i64 301) ∧ Fr [] w w' := by
  obtain ⟨h0, c, pv, ps, rfl, hd, h1, h2, h4⟩ := D
  have H := (Hp.start [] w).pushRng (b := b) (off := 0) (cs := [.slice (some ⟨c, 0, none⟩) dur.length dur.length, pv]) (lt_of_get h1) (by simp) (fun j u hj => by rw [cell_of_row w b _ _ _ _ h1]; simpa using hj)
  clear h1 h2 h4 hd h0
  go_enter Try.func36, Try.ntmps36
  go_wp2_with (first | ((first | (refine is_load rfl ?_; refine wl_ev rfl (by first | exact c_ld H rfl rfl | exact c_ld0 H rfl rfl | exact c_ldz H rfl rfl | exact c_ldr H rfl rfl | exact c_ln H rfl rfl | exact c_lnp H rfl rfl | exact c_lnz H rfl rfl | exact c_lnr H rfl rfl) ?_) | (refine is_cmp rfl rfl ?_; first | (refine wl_ev rfl (by first | exact ev_cmpT rfl rfl rfl rfl | exact ev_cmpF rfl rfl rfl rfl | exact c_peq rfl rfl | exact c_pne rfl rfl | exact ev_strEq rfl rfl rfl | exact ev_strNe rfl rfl rfl) ?_) | (refine wl_cmp rfl rfl rfl rfl rfl (fun h => ?_) (fun h => ?_) <;> (simp only [cmpP] at h))) | (refine is_bin (op := .quo) rfl ?_; refine wl_ev rfl (ev_quo rfl rfl rfl) ?_) | (refine is_bin (op := .rem) rfl ?_; refine wl_ev rfl (ev_rem rfl rfl rfl) ?_) | (refine is_slice rfl ?_; refine wl_ev rfl (by first | exact c_ss rfl rfl | exact c_ssh rfl rfl rfl | exact c_ssl rfl rfl rfl | exact c_sslh rfl rfl rfl rfl | exact c_sa rfl rfl | exact c_sah rfl rfl rfl) ?_) | (refine is_build rfl ?_; refine wl_ev rfl (by first | exact c_sta rfl | exact c_stp rfl) ?_) | (refine is_indexAddr rfl ?_; refine wl_ev rfl (c_ix rfl rfl rfl) ?_)) <;> (simp only [nrm, ↓reduceIte, Nat.reduceAdd])) | (refine is_conv rfl ?_; first | fail | (refine wl_ev rfl (by first | exact c_cv rfl rfl | exact c_cv64 rfl rfl | exact c_cv32 rfl rfl | exact c_cv8 rfl rfl) ?_; (simp only [nrm, ↓reduceIte, Nat.reduceAdd]))) | ((first | (refine is_make rfl ?_; refine wl_rw rfl (fun K hK => c_mk H rfl rfl rfl (h := (fun g w1 hg hf H1 => hK _ _ ?_)))) | (refine is_buildSlice rfl ?_; first | (refine wl_rw rfl (fun K hK => c_s1t H rfl rfl rfl (h := (fun g w1 hg hf H1 => hK _ _ ?_)))) | (refine wl_rw rfl (fun K hK => c_s1c H rfl rfl (h := (fun g w1 hg hf H1 => hK _ _ ?_))))) | (refine is_alloc rfl ?_; refine wl_rw rfl (fun K hK => c_al H rfl (fun g w1 hg hf H1 => hK _ _ ?_))) | (refine is_box rfl ?_; first | (refine wl_rw rfl (fun K hK => la_boxN H rfl rfl (fun g w1 hg hf H1 => hK _ _ ?_))) | (refine wl_rw rfl (fun K hK => la_box1 H rfl rfl rfl (fun g w1 hg hf H1 => hK _ _ ?_)))) | (refine is_store rfl ?_; first | (refine wl_rw rfl (fun K hK => c_st H rfl rfl rfl (h := (fun w1 hf H1 => hK _ _ ?_)))) | (refine wl_rw rfl (fun K hK => c_stc H rfl rfl (h := (fun w1 hf H1 => hK _ _ ?_)))) | (refine wl_rw rfl (fun K hK => c_stn H rfl rfl rfl (h := (fun w1 hf H1 => hK _ _ ?_)))))); (clear hK K); (clear H; have H := H1; clear H1; (try dsimp only at H); clear hf); (simp only [nrm, ↓reduceIte, Nat.reduceAdd])))
  (refine bodyPost_ret (results_tmp rfl _ _ _) rfl ?_)
  exact ⟨rfl, H.fr⟩

theorem rwC_one (x : Nat × List UInt8) : ∀ u ∈ rwC x, u.oneCell' = true := by
  intro u hu; simp only [rwC, List.mem_cons, List.not_mem_nil, or_false] at hu
  rcases hu with rfl | rfl <;> rfl
theorem ROk.write {dur : List (List UInt8)} {pend : List (Nat × List UInt8)} (h : ROk dur pend) {i : Nat} {s : List UInt8} (hi : i < dur.length) : ROk dur (pend ++ [(i, s)]) :=
  ⟨h.max, fun x hx => by
    rcases List.mem_append.1 hx with h1 | h1
    · exact h.idx x h1
    · simp at h1; subst h1; exact hi⟩
set_option maxHeartbeats 1000000 in
set_option maxRecDepth 100000 in
theorem refWrite_first {w : World} {b : Nat} {dur : List (List UInt8)} {S : List Nat} (D : RRep w b dur [] S) (i : Nat) (s : List UInt8) (p : Option Addr) (cp : Nat) (hi1 : i < dur.length) (hs : s.length ≤ 64) (hr : ∀ w', Fr S w w' → Rd w' (.slice p s.length cp) s.length (bytesV s)) :
    Calls Try.prog 36 #[.pointer (some ⟨b, 0, none⟩), .int .i64 i, .slice p s.length cp] w fun e w' => e = .returned (.int .i64 0) ∧ Fr S w w' ∧ ∃ S', RRep w' b dur [(i, s)] S' ∧ ∀ x ∈ S', x ∈ S ∨ w.heap.size ≤ x := by
  obtain ⟨h0, c, pv, ps, rfl, hd, h1, h2, h4⟩ := D
  have hmax := h0.max
  obtain ⟨rfl, rfl⟩ : pv = .slice none 0 0 ∧ ps = [] := by
    rcases h4 with ⟨_, h5, h6⟩ | ⟨h10, _⟩
    · exact ⟨h5, h6⟩
    · exact absurd rfl h10
  have H := Hp.start [b, c] w
  have H := H.push (b := c) (cs := dur.map strV) h2 (by simp) (by simp)
  have H := H.push (b := b) (cs := [.slice (some ⟨c, 0, none⟩) dur.length dur.length, .slice none 0 0]) h1 (by simp) (by simp [Ent.own]; simp at hd; omega)
  have hok := h0.write (s := s) hi1
  clear h1 h2 h4 hd h0
  have Hr := hid hr; clear hr
  go_enter Try.func36, Try.ntmps36
  go_wp2_with (first | ((first | (refine is_load rfl ?_; refine wl_ev rfl (by first | exact c_ld H rfl rfl | exact c_ld0 H rfl rfl | exact c_ldz H rfl rfl | exact c_ldr H rfl rfl | exact c_ln H rfl rfl | exact c_lnp H rfl rfl | exact c_lnz H rfl rfl | exact c_lnr H rfl rfl) ?_) | (refine is_cmp rfl rfl ?_; first | (refine wl_ev rfl (by first | exact ev_cmpT rfl rfl rfl rfl | exact ev_cmpF rfl rfl rfl rfl | exact c_peq rfl rfl | exact c_pne rfl rfl | exact ev_strEq rfl rfl rfl | exact ev_strNe rfl rfl rfl) ?_) | (refine wl_cmp rfl rfl rfl rfl rfl (fun h => ?_) (fun h => ?_) <;> (simp only [cmpP] at h))) | (refine is_bin (op := .quo) rfl ?_; refine wl_ev rfl (ev_quo rfl rfl rfl) ?_) | (refine is_bin (op := .rem) rfl ?_; refine wl_ev rfl (ev_rem rfl rfl rfl) ?_) | (refine is_slice rfl ?_; refine wl_ev rfl (by first | exact c_ss rfl rfl | exact c_ssh rfl rfl rfl | exact c_ssl rfl rfl rfl | exact c_sslh rfl rfl rfl rfl | exact c_sa rfl rfl | exact c_sah rfl rfl rfl) ?_) | (refine is_build rfl ?_; refine wl_ev rfl (by first | exact c_sta rfl | exact c_stp rfl) ?_) | (refine is_indexAddr rfl ?_; refine wl_ev rfl (c_ix rfl rfl rfl) ?_)) <;> (simp only [nrm, ↓reduceIte, Nat.reduceAdd])) | (refine is_conv rfl ?_; first | fail | (refine wl_ev rfl (by first | exact c_cv rfl rfl | exact c_cv64 rfl rfl | exact c_cv32 rfl rfl | exact c_cv8 rfl rfl) ?_; (simp only [nrm, ↓reduceIte, Nat.reduceAdd]))) | ((first | (refine is_make rfl ?_; refine wl_rw rfl (fun K hK => c_mk H rfl rfl rfl (h := (fun g w1 hg hf H1 => hK _ _ ?_)))) | (refine is_buildSlice rfl ?_; first | (refine wl_rw rfl (fun K hK => c_s1t H rfl rfl rfl (h := (fun g w1 hg hf H1 => hK _ _ ?_)))) | (refine wl_rw rfl (fun K hK => c_s1c H rfl rfl (h := (fun g w1 hg hf H1 => hK _ _ ?_))))) | (refine is_alloc rfl ?_; refine wl_rw rfl (fun K hK => c_al H rfl (fun g w1 hg hf H1 => hK _ _ ?_))) | (refine is_box rfl ?_; first | (refine wl_rw rfl (fun K hK => la_boxN H rfl rfl (fun g w1 hg hf H1 => hK _ _ ?_))) | (refine wl_rw rfl (fun K hK => la_box1 H rfl rfl rfl (fun g w1 hg hf H1 => hK _ _ ?_)))) | (refine is_store rfl ?_; first | (refine wl_rw rfl (fun K hK => c_st H rfl rfl rfl (h := (fun w1 hf H1 => hK _ _ ?_)))) | (refine wl_rw rfl (fun K hK => c_stc H rfl rfl (h := (fun w1 hf H1 => hK _ _ ?_)))) | (refine wl_rw rfl (fun K hK => c_stn H rfl rfl rfl (h := (fun w1 hf H1 => hK _ _ ?_)))))); (clear hK K); (clear H; have H := H1; clear H1; (try dsimp only at H); clear hf); (simp only [nrm, ↓reduceIte, Nat.reduceAdd])))
  (refine wp_plan H (List.Sublist.refl _) 13 (.st 0 (.st 1 (.st 2 (.st 3 (.st 4 (.st 5 (.st 6 (.st 7 (.st 8 (.ld 9 (.ld 10 (.st 11 (.st 12 (.ld 13 .done)))))))))))))) rfl (by kernel_rfl) (by kernel_rfl) (by intro c a d v w h; cases d <;> exact h) (fun w1 H1 => ?_); (clear H; have H := H1; clear H1))
  (refine pl_ev rfl rfl (fun w H => ev_moveT rfl rfl) ?_; (simp only [nrm, ↓reduceIte, Nat.reduceAdd]))
  (refine pl_ev rfl rfl (fun w H => ev_moveT rfl rfl) ?_; (simp only [nrm, ↓reduceIte, Nat.reduceAdd]))
  (refine pl_ev rfl rfl (fun w H => ev_nilCheck rfl rfl) ?_; (simp only [nrm, ↓reduceIte, Nat.reduceAdd]))
  (first | (refine pl_ev rfl rfl (fun w H => c_fa2 rfl rfl) ?_; (simp only [nrm, ↓reduceIte, Nat.reduceAdd])) | (refine pl_ev rfl rfl (fun w H => c_fa rfl rfl) ?_; (simp only [nrm, ↓reduceIte, Nat.reduceAdd])))
  (refine pl_ev rfl rfl (fun w H => by first | exact c_ld H rfl rfl | exact c_ld0 H rfl rfl | exact c_ldz H rfl rfl | exact c_ldr H rfl rfl | exact c_ln H rfl rfl | exact c_lnp H rfl rfl | exact c_lnz H rfl rfl | exact c_lnr H rfl rfl) ?_; (simp only [nrm, ↓reduceIte, Nat.reduceAdd]))
  (refine pl_ev rfl rfl (fun w H => ev_moveT rfl rfl) ?_; (simp only [nrm, ↓reduceIte, Nat.reduceAdd]))
  (refine pl_ev rfl rfl (fun w H => ev_moveT rfl rfl) ?_; (simp only [nrm, ↓reduceIte, Nat.reduceAdd]))
  (refine pl_ev rfl rfl (fun w H => ev_bytesStrT rfl rfl Try.underlying33 Try.underlying9 Try.underlying5 (Hr.out _ H.fr)) ?_; (simp only [nrm, ↓reduceIte, Nat.reduceAdd]))
  (refine pl_ev rfl rfl (fun w H => by first | exact c_sta rfl | exact c_stp rfl) ?_; (simp only [nrm, ↓reduceIte, Nat.reduceAdd]))
  (first | (refine pl_rw rfl rfl (fun K hK => c_s1t H rfl rfl rfl (h := fun g w1 hg hf H1 => hK _ _ (fun hne => by first | exact absurd rfl hne | exact H1.sub (by repeat first | exact List.Sublist.refl _ | exact List.nil_sublist _ | apply List.Sublist.cons_cons | apply List.Sublist.cons)) ?_)); (clear hK K); (clear H; have H := H1; clear H1; (try dsimp only at H); clear hf); (simp only [nrm, ↓reduceIte, Nat.reduceAdd])) | (refine pl_rw rfl rfl (fun K hK => c_s1c H rfl rfl (h := fun g w1 hg hf H1 => hK _ _ (fun hne => by first | exact absurd rfl hne | exact H1.sub (by repeat first | exact List.Sublist.refl _ | exact List.nil_sublist _ | apply List.Sublist.cons_cons | apply List.Sublist.cons)) ?_)); (clear hK K); (clear H; have H := H1; clear H1; (try dsimp only at H); clear hf); (simp only [nrm, ↓reduceIte, Nat.reduceAdd])))
  (go_loud (refine pl_rw rfl rfl (fun K hK => c_apn H rfl rfl rfl (H.rd (vs := [.int .i64 i, strV s]) (off := 0) List.prefix_rfl) (by rfl) (by omega) (by omega) (by omega) (fun g w1 cap pad hg hc hcm hpl hf H1 => hK _ _ (fun hne => by first | exact absurd rfl hne | exact H1.sub (by repeat first | exact List.Sublist.refl _ | exact List.nil_sublist _ | apply List.Sublist.cons_cons | apply List.Sublist.cons)) ?_))); (clear hK K); (clear H; have H := H1; clear H1; (try dsimp only at H); clear hf); (simp only [nrm, ↓reduceIte, Nat.reduceAdd]))
  (refine pl_ev rfl rfl (fun w H => ev_nilCheck rfl rfl) ?_; (simp only [nrm, ↓reduceIte, Nat.reduceAdd]))
  (first | (refine pl_ev rfl rfl (fun w H => c_fa2 rfl rfl) ?_; (simp only [nrm, ↓reduceIte, Nat.reduceAdd])) | (refine pl_ev rfl rfl (fun w H => c_fa rfl rfl) ?_; (simp only [nrm, ↓reduceIte, Nat.reduceAdd])))
  (first | (refine pl_rw rfl rfl (fun K hK => c_st H rfl rfl rfl (h := (fun w1 hf H1 => hK _ _ (fun hne => by first | exact absurd rfl hne | exact H1.sub (by repeat first | exact List.Sublist.refl _ | exact List.nil_sublist _ | apply List.Sublist.cons_cons | apply List.Sublist.cons)) ?_))); (clear hK K); (clear H; have H := H1; clear H1; (try dsimp only at H); clear hf); (simp only [nrm, ↓reduceIte, Nat.reduceAdd])) | (refine pl_rw rfl rfl (fun K hK => c_stc H rfl rfl (h := (fun w1 hf H1 => hK _ _ (fun hne => by first | exact absurd rfl hne | exact H1.sub (by repeat first | exact List.Sublist.refl _ | exact List.nil_sublist _ | apply List.Sublist.cons_cons | apply List.Sublist.cons)) ?_))); (clear hK K); (clear H; have H := H1; clear H1; (try dsimp only at H); clear hf); (simp only [nrm, ↓reduceIte, Nat.reduceAdd])) | (refine pl_rw rfl rfl (fun K hK => c_stn H rfl rfl rfl (h := (fun w1 hf H1 => hK _ _ (fun hne => by first | exact absurd rfl hne | exact H1.sub (by repeat first | exact List.Sublist.refl _ | exact List.nil_sublist _ | apply List.Sublist.cons_cons | apply List.Sublist.cons)) ?_))); (clear hK K); (clear H; have H := H1; clear H1; (try dsimp only at H); clear hf); (simp only [nrm, ↓reduceIte, Nat.reduceAdd])))
  (refine pl_done ?_)
  go_wp2_with (first | ((first | (refine is_load rfl ?_; refine wl_ev rfl (by first | exact c_ld H rfl rfl | exact c_ld0 H rfl rfl | exact c_ldz H rfl rfl | exact c_ldr H rfl rfl | exact c_ln H rfl rfl | exact c_lnp H rfl rfl | exact c_lnz H rfl rfl | exact c_lnr H rfl rfl) ?_) | (refine is_cmp rfl rfl ?_; first | (refine wl_ev rfl (by first | exact ev_cmpT rfl rfl rfl rfl | exact ev_cmpF rfl rfl rfl rfl | exact c_peq rfl rfl | exact c_pne rfl rfl | exact ev_strEq rfl rfl rfl | exact ev_strNe rfl rfl rfl) ?_) | (refine wl_cmp rfl rfl rfl rfl rfl (fun h => ?_) (fun h => ?_) <;> (simp only [cmpP] at h))) | (refine is_bin (op := .quo) rfl ?_; refine wl_ev rfl (ev_quo rfl rfl rfl) ?_) | (refine is_bin (op := .rem) rfl ?_; refine wl_ev rfl (ev_rem rfl rfl rfl) ?_) | (refine is_slice rfl ?_; refine wl_ev rfl (by first | exact c_ss rfl rfl | exact c_ssh rfl rfl rfl | exact c_ssl rfl rfl rfl | exact c_sslh rfl rfl rfl rfl | exact c_sa rfl rfl | exact c_sah rfl rfl rfl) ?_) | (refine is_build rfl ?_; refine wl_ev rfl (by first | exact c_sta rfl | exact c_stp rfl) ?_) | (refine is_indexAddr rfl ?_; refine wl_ev rfl (c_ix rfl rfl rfl) ?_)) <;> (simp only [nrm, ↓reduceIte, Nat.reduceAdd])) | (refine is_conv rfl ?_; first | fail | (refine wl_ev rfl (by first | exact c_cv rfl rfl | exact c_cv64 rfl rfl | exact c_cv32 rfl rfl | exact c_cv8 rfl rfl) ?_; (simp only [nrm, ↓reduceIte, Nat.reduceAdd]))) | ((first | (refine is_make rfl ?_; refine wl_rw rfl (fun K hK => c_mk H rfl rfl rfl (h := (fun g w1 hg hf H1 => hK _ _ ?_)))) | (refine is_buildSlice rfl ?_; first | (refine wl_rw rfl (fun K hK => c_s1t H rfl rfl rfl (h := (fun g w1 hg hf H1 => hK _ _ ?_)))) | (refine wl_rw rfl (fun K hK => c_s1c H rfl rfl (h := (fun g w1 hg hf H1 => hK _ _ ?_))))) | (refine is_alloc rfl ?_; refine wl_rw rfl (fun K hK => c_al H rfl (fun g w1 hg hf H1 => hK _ _ ?_))) | (refine is_box rfl ?_; first | (refine wl_rw rfl (fun K hK => la_boxN H rfl rfl (fun g w1 hg hf H1 => hK _ _ ?_))) | (refine wl_rw rfl (fun K hK => la_box1 H rfl rfl rfl (fun g w1 hg hf H1 => hK _ _ ?_)))) | (refine is_store rfl ?_; first | (refine wl_rw rfl (fun K hK => c_st H rfl rfl rfl (h := (fun w1 hf H1 => hK _ _ ?_)))) | (refine wl_rw rfl (fun K hK => c_stc H rfl rfl (h := (fun w1 hf H1 => hK _ _ ?_)))) | (refine wl_rw rfl (fun K hK => c_stn H rfl rfl rfl (h := (fun w1 hf H1 => hK _ _ ?_)))))); (clear hK K); (clear H; have H := H1; clear H1; (try dsimp only at H); clear hf); (simp only [nrm, ↓reduceIte, Nat.reduceAdd])))
  (refine bodyPost_ret (results_tmp rfl _ _ _) rfl ?_)
  (have hn := H.nodup; simp only [List.flatMap_cons, List.flatMap_nil, Ent.own, List.cons_append, List.nil_append, List.nodup_cons, List.mem_cons, List.not_mem_nil, or_false, not_or] at hn)
  refine ⟨rfl, H.fr, [b, c, g], ⟨hok, c, _, [g], rfl, ?_, H.at _, H.at _, .inr ⟨by simp, g, cap, pad, rfl, rfl, ?_, ?_, hcm⟩⟩, ?_⟩
  · simp; omega
  · exact H.at _
  · exact hpl
  · simp; omega

set_option maxHeartbeats 1000000 in
set_option maxRecDepth 100000 in
theorem refWrite_more {w : World} {b : Nat} {dur : List (List UInt8)} {pend : List (Nat × List UInt8)} {S : List Nat} (D : RRep w b dur pend S) (hpn : pend ≠ []) (hpl : pend.length ≤ 1000000) (i : Nat) (s : List UInt8) (p : Option Addr) (cp : Nat) (hi1 : i < dur.length) (hs : s.length ≤ 64) (hr : ∀ w', Fr S w w' → Rd w' (.slice p s.length cp) s.length (bytesV s)) :
    Calls Try.prog 36 #[.pointer (some ⟨b, 0, none⟩), .int .i64 i, .slice p s.length cp] w fun e w' => e = .returned (.int .i64 0) ∧ Fr S w w' ∧ ∃ S', RRep w' b dur (pend ++ [(i, s)]) S' ∧ ∀ x ∈ S', x ∈ S ∨ w.heap.size ≤ x := by
  obtain ⟨h0, c, pv, ps, rfl, hd, h1, h2, h4⟩ := D
  have hmax := h0.max
  obtain ⟨q, cap0, pad0, rfl, rfl, h5, h6, h7⟩ : ∃ q cap pad, pv = .slice (some ⟨q, 0, none⟩) pend.length cap ∧ ps = [q] ∧ w.heap[q]? = some (.cells (pend.flatMap rwC ++ pad).toArray 94 (0, 0)) ∧ (pend.flatMap rwC ++ pad).length = cap * 2 ∧ cap ≤ maxLen := by
    rcases h4 with ⟨h10, _⟩ | ⟨_, h5⟩
    · exact absurd h10 hpn
    · exact h5
  have H := Hp.start [b, c, q] w
  have H := H.push (b := q) (cs := pend.flatMap rwC ++ pad0) h5 (by simp) (by simp)
  have H := H.push (b := c) (cs := dur.map strV) h2 (by simp) (by simp [Ent.own]; simp at hd; omega)
  have H := H.push (b := b) (cs := [.slice (some ⟨c, 0, none⟩) dur.length dur.length, .slice (some ⟨q, 0, none⟩) pend.length cap0]) h1 (by simp) (by simp [Ent.own]; simp at hd; omega)
  have hok := h0.write (s := s) hi1
  have hpfl := length_flat rwC 2 pend (fun x _ => rwC_len x)
  have Hw := hid (rwC_one (i, s))
  have Hq := hid h6; clear h6
  clear h1 h2 h4 h5 hd h0
  have Hr := hid hr; clear hr
  go_enter Try.func36, Try.ntmps36
  go_wp2_with (first | ((first | (refine is_load rfl ?_; refine wl_ev rfl (by first | exact c_ld H rfl rfl | exact c_ld0 H rfl rfl | exact c_ldz H rfl rfl | exact c_ldr H rfl rfl | exact c_ln H rfl rfl | exact c_lnp H rfl rfl | exact c_lnz H rfl rfl | exact c_lnr H rfl rfl) ?_) | (refine is_cmp rfl rfl ?_; first | (refine wl_ev rfl (by first | exact ev_cmpT rfl rfl rfl rfl | exact ev_cmpF rfl rfl rfl rfl | exact c_peq rfl rfl | exact c_pne rfl rfl | exact ev_strEq rfl rfl rfl | exact ev_strNe rfl rfl rfl) ?_) | (refine wl_cmp rfl rfl rfl rfl rfl (fun h => ?_) (fun h => ?_) <;> (simp only [cmpP] at h))) | (refine is_bin (op := .quo) rfl ?_; refine wl_ev rfl (ev_quo rfl rfl rfl) ?_) | (refine is_bin (op := .rem) rfl ?_; refine wl_ev rfl (ev_rem rfl rfl rfl) ?_) | (refine is_slice rfl ?_; refine wl_ev rfl (by first | exact c_ss rfl rfl | exact c_ssh rfl rfl rfl | exact c_ssl rfl rfl rfl | exact c_sslh rfl rfl rfl rfl | exact c_sa rfl rfl | exact c_sah rfl rfl rfl) ?_) | (refine is_build rfl ?_; refine wl_ev rfl (by first | exact c_sta rfl | exact c_stp rfl) ?_) | (refine is_indexAddr rfl ?_; refine wl_ev rfl (c_ix rfl rfl rfl) ?_)) <;> (simp only [nrm, ↓reduceIte, Nat.reduceAdd])) | (refine is_conv rfl ?_; first | fail | (refine wl_ev rfl (by first | exact c_cv rfl rfl | exact c_cv64 rfl rfl | exact c_cv32 rfl rfl | exact c_cv8 rfl rfl) ?_; (simp only [nrm, ↓reduceIte, Nat.reduceAdd]))) | ((first | (refine is_make rfl ?_; refine wl_rw rfl (fun K hK => c_mk H rfl rfl rfl (h := (fun g w1 hg hf H1 => hK _ _ ?_)))) | (refine is_buildSlice rfl ?_; first | (refine wl_rw rfl (fun K hK => c_s1t H rfl rfl rfl (h := (fun g w1 hg hf H1 => hK _ _ ?_)))) | (refine wl_rw rfl (fun K hK => c_s1c H rfl rfl (h := (fun g w1 hg hf H1 => hK _ _ ?_))))) | (refine is_alloc rfl ?_; refine wl_rw rfl (fun K hK => c_al H rfl (fun g w1 hg hf H1 => hK _ _ ?_))) | (refine is_box rfl ?_; first | (refine wl_rw rfl (fun K hK => la_boxN H rfl rfl (fun g w1 hg hf H1 => hK _ _ ?_))) | (refine wl_rw rfl (fun K hK => la_box1 H rfl rfl rfl (fun g w1 hg hf H1 => hK _ _ ?_)))) | (refine is_store rfl ?_; first | (refine wl_rw rfl (fun K hK => c_st H rfl rfl rfl (h := (fun w1 hf H1 => hK _ _ ?_)))) | (refine wl_rw rfl (fun K hK => c_stc H rfl rfl (h := (fun w1 hf H1 => hK _ _ ?_)))) | (refine wl_rw rfl (fun K hK => c_stn H rfl rfl rfl (h := (fun w1 hf H1 => hK _ _ ?_)))))); (clear hK K); (clear H; have H := H1; clear H1; (try dsimp only at H); clear hf); (simp only [nrm, ↓reduceIte, Nat.reduceAdd])))
  (refine wp_plan H (.cons_cons _ (.cons_cons _ (.cons _ (.refl _)))) 13 (.st 0 (.st 1 (.st 2 (.st 3 (.st 4 (.st 5 (.st 6 (.st 7 (.st 8 (.ld 9 (.ld 10 (.st 11 (.st 12 (.ld 13 .done)))))))))))))) rfl (by kernel_rfl) (by kernel_rfl) (by intro c a d v w h; cases d <;> exact h) (fun w1 H1 => ?_); (clear H; have H := H1; clear H1))
  (refine pl_ev rfl rfl (fun w H => ev_moveT rfl rfl) ?_; (simp only [nrm, ↓reduceIte, Nat.reduceAdd]))
  (refine pl_ev rfl rfl (fun w H => ev_moveT rfl rfl) ?_; (simp only [nrm, ↓reduceIte, Nat.reduceAdd]))
  (refine pl_ev rfl rfl (fun w H => ev_nilCheck rfl rfl) ?_; (simp only [nrm, ↓reduceIte, Nat.reduceAdd]))
  (first | (refine pl_ev rfl rfl (fun w H => c_fa2 rfl rfl) ?_; (simp only [nrm, ↓reduceIte, Nat.reduceAdd])) | (refine pl_ev rfl rfl (fun w H => c_fa rfl rfl) ?_; (simp only [nrm, ↓reduceIte, Nat.reduceAdd])))
  (refine pl_ev rfl rfl (fun w H => by first | exact c_ld H rfl rfl | exact c_ld0 H rfl rfl | exact c_ldz H rfl rfl | exact c_ldr H rfl rfl | exact c_ln H rfl rfl | exact c_lnp H rfl rfl | exact c_lnz H rfl rfl | exact c_lnr H rfl rfl) ?_; (simp only [nrm, ↓reduceIte, Nat.reduceAdd]))
  (refine pl_ev rfl rfl (fun w H => ev_moveT rfl rfl) ?_; (simp only [nrm, ↓reduceIte, Nat.reduceAdd]))
  (refine pl_ev rfl rfl (fun w H => ev_moveT rfl rfl) ?_; (simp only [nrm, ↓reduceIte, Nat.reduceAdd]))
  (refine pl_ev rfl rfl (fun w H => ev_bytesStrT rfl rfl Try.underlying33 Try.underlying9 Try.underlying5 (Hr.out _ H.fr)) ?_; (simp only [nrm, ↓reduceIte, Nat.reduceAdd]))
  (refine pl_ev rfl rfl (fun w H => by first | exact c_sta rfl | exact c_stp rfl) ?_; (simp only [nrm, ↓reduceIte, Nat.reduceAdd]))
  (first | (refine pl_rw rfl rfl (fun K hK => c_s1t H rfl rfl rfl (h := fun g w1 hg hf H1 => hK _ _ (fun hne => by first | exact absurd rfl hne | exact H1.sub (by repeat first | exact List.Sublist.refl _ | exact List.nil_sublist _ | apply List.Sublist.cons_cons | apply List.Sublist.cons)) ?_)); (clear hK K); (clear H; have H := H1; clear H1; (try dsimp only at H); clear hf); (simp only [nrm, ↓reduceIte, Nat.reduceAdd])) | (refine pl_rw rfl rfl (fun K hK => c_s1c H rfl rfl (h := fun g w1 hg hf H1 => hK _ _ (fun hne => by first | exact absurd rfl hne | exact H1.sub (by repeat first | exact List.Sublist.refl _ | exact List.nil_sublist _ | apply List.Sublist.cons_cons | apply List.Sublist.cons)) ?_)); (clear hK K); (clear H; have H := H1; clear H1; (try dsimp only at H); clear hf); (simp only [nrm, ↓reduceIte, Nat.reduceAdd])))
  (go_loud (refine pl_rw rfl rfl (fun K hK => c_apo H rfl rfl rfl (List.prefix_append _ _) hpfl Hq.out h7 (H.rd (vs := [.int .i64 i, strV s]) (off := 0) List.prefix_rfl) (by rfl) Hw.out (by omega) (by omega) (by first | omega | (unfold maxLen; omega)) (fun g w1 cap pad hg hc hcm hpl hf H1 => hK _ _ (fun hne => by first | exact absurd rfl hne | exact H1.sub (by repeat first | exact List.Sublist.refl _ | exact List.nil_sublist _ | apply List.Sublist.cons_cons | apply List.Sublist.cons)) ?_))); (clear hK K); (clear H; have H := H1; clear H1; (try dsimp only at H); clear hf); (simp only [nrm, ↓reduceIte, Nat.reduceAdd]))
  (refine pl_ev rfl rfl (fun w H => ev_nilCheck rfl rfl) ?_; (simp only [nrm, ↓reduceIte, Nat.reduceAdd]))
  (first | (refine pl_ev rfl rfl (fun w H => c_fa2 rfl rfl) ?_; (simp only [nrm, ↓reduceIte, Nat.reduceAdd])) | (refine pl_ev rfl rfl (fun w H => c_fa rfl rfl) ?_; (simp only [nrm, ↓reduceIte, Nat.reduceAdd])))
  (first | (refine pl_rw rfl rfl (fun K hK => c_st H rfl rfl rfl (h := (fun w1 hf H1 => hK _ _ (fun hne => by first | exact absurd rfl hne | exact H1.sub (by repeat first | exact List.Sublist.refl _ | exact List.nil_sublist _ | apply List.Sublist.cons_cons | apply List.Sublist.cons)) ?_))); (clear hK K); (clear H; have H := H1; clear H1; (try dsimp only at H); clear hf); (simp only [nrm, ↓reduceIte, Nat.reduceAdd])) | (refine pl_rw rfl rfl (fun K hK => c_stc H rfl rfl (h := (fun w1 hf H1 => hK _ _ (fun hne => by first | exact absurd rfl hne | exact H1.sub (by repeat first | exact List.Sublist.refl _ | exact List.nil_sublist _ | apply List.Sublist.cons_cons | apply List.Sublist.cons)) ?_))); (clear hK K); (clear H; have H := H1; clear H1; (try dsimp only at H); clear hf); (simp only [nrm, ↓reduceIte, Nat.reduceAdd])) | (refine pl_rw rfl rfl (fun K hK => c_stn H rfl rfl rfl (h := (fun w1 hf H1 => hK _ _ (fun hne => by first | exact absurd rfl hne | exact H1.sub (by repeat first | exact List.Sublist.refl _ | exact List.nil_sublist _ | apply List.Sublist.cons_cons | apply List.Sublist.cons)) ?_))); (clear hK K); (clear H; have H := H1; clear H1; (try dsimp only at H); clear hf); (simp only [nrm, ↓reduceIte, Nat.reduceAdd])))
  (refine pl_done ?_)
  go_wp2_with (first | ((first | (refine is_load rfl ?_; refine wl_ev rfl (by first | exact c_ld H rfl rfl | exact c_ld0 H rfl rfl | exact c_ldz H rfl rfl | exact c_ldr H rfl rfl | exact c_ln H rfl rfl | exact c_lnp H rfl rfl | exact c_lnz H rfl rfl | exact c_lnr H rfl rfl) ?_) | (refine is_cmp rfl rfl ?_; first | (refine wl_ev rfl (by first | exact ev_cmpT rfl rfl rfl rfl | exact ev_cmpF rfl rfl rfl rfl | exact c_peq rfl rfl | exact c_pne rfl rfl | exact ev_strEq rfl rfl rfl | exact ev_strNe rfl rfl rfl) ?_) | (refine wl_cmp rfl rfl rfl rfl rfl (fun h => ?_) (fun h => ?_) <;> (simp only [cmpP] at h))) | (refine is_bin (op := .quo) rfl ?_; refine wl_ev rfl (ev_quo rfl rfl rfl) ?_) | (refine is_bin (op := .rem) rfl ?_; refine wl_ev rfl (ev_rem rfl rfl rfl) ?_) | (refine is_slice rfl ?_; refine wl_ev rfl (by first | exact c_ss rfl rfl | exact c_ssh rfl rfl rfl | exact c_ssl rfl rfl rfl | exact c_sslh rfl rfl rfl rfl | exact c_sa rfl rfl | exact c_sah rfl rfl rfl) ?_) | (refine is_build rfl ?_; refine wl_ev rfl (by first | exact c_sta rfl | exact c_stp rfl) ?_) | (refine is_indexAddr rfl ?_; refine wl_ev rfl (c_ix rfl rfl rfl) ?_)) <;> (simp only [nrm, ↓reduceIte, Nat.reduceAdd])) | (refine is_conv rfl ?_; first | fail | (refine wl_ev rfl (by first | exact c_cv rfl rfl | exact c_cv64 rfl rfl | exact c_cv32 rfl rfl | exact c_cv8 rfl rfl) ?_; (simp only [nrm, ↓reduceIte, Nat.reduceAdd]))) | ((first | (refine is_make rfl ?_; refine wl_rw rfl (fun K hK => c_mk H rfl rfl rfl (h := (fun g w1 hg hf H1 => hK _ _ ?_)))) | (refine is_buildSlice rfl ?_; first | (refine wl_rw rfl (fun K hK => c_s1t H rfl rfl rfl (h := (fun g w1 hg hf H1 => hK _ _ ?_)))) | (refine wl_rw rfl (fun K hK => c_s1c H rfl rfl (h := (fun g w1 hg hf H1 => hK _ _ ?_))))) | (refine is_alloc rfl ?_; refine wl_rw rfl (fun K hK => c_al H rfl (fun g w1 hg hf H1 => hK _ _ ?_))) | (refine is_box rfl ?_; first | (refine wl_rw rfl (fun K hK => la_boxN H rfl rfl (fun g w1 hg hf H1 => hK _ _ ?_))) | (refine wl_rw rfl (fun K hK => la_box1 H rfl rfl rfl (fun g w1 hg hf H1 => hK _ _ ?_)))) | (refine is_store rfl ?_; first | (refine wl_rw rfl (fun K hK => c_st H rfl rfl rfl (h := (fun w1 hf H1 => hK _ _ ?_)))) | (refine wl_rw rfl (fun K hK => c_stc H rfl rfl (h := (fun w1 hf H1 => hK _ _ ?_)))) | (refine wl_rw rfl (fun K hK => c_stn H rfl rfl rfl (h := (fun w1 hf H1 => hK _ _ ?_)))))); (clear hK K); (clear H; have H := H1; clear H1; (try dsimp only at H); clear hf); (simp only [nrm, ↓reduceIte, Nat.reduceAdd])))
  (refine bodyPost_ret (results_tmp rfl _ _ _) rfl ?_)
  (have hn := H.nodup; simp only [List.flatMap_cons, List.flatMap_nil, Ent.own, List.cons_append, List.nil_append, List.nodup_cons, List.mem_cons, List.not_mem_nil, or_false, not_or] at hn)
  have e1 : (pend ++ [(i, s)]).flatMap rwC ++ pad = pend.flatMap rwC ++ [Value.int .i64 i, strV s] ++ pad := by simp [rwC]
  refine ⟨rfl, H.fr, [b, c, g], ⟨hok, c, _, [g], rfl, ?_, ?_, H.at _, .inr ⟨by simp, g, cap, pad, rfl, rfl, ?_, ?_, hcm⟩⟩, ?_⟩
  · simp; omega
  · rw [List.length_append]; exact H.at _
  · rw [e1]; exact H.at _
  · rw [e1]; exact hpl
  · simp; omega
end Go.Proofs.Ytgnpgikbdomdpaa
