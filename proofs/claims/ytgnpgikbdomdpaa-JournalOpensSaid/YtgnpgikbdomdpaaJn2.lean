/-
  The journal, second part: clones; the bytes of a block if it holds the given part of a record.
-/
import Derived.Test.YtgnpgikbdomdpaaJn
namespace Go.Proofs.Ytgnpgikbdomdpaa
open Go.RowKit
set_option linter.unusedSimpArgs false
set_option linter.unusedVariables false
section
variable {P : Program} {Q : Exit → Act → World → Prop} {a : Act} {w : World} {o : Oper} {lo : List Oper}
theorem ev_not {t : TypeId} {x : Operand} (ho : o.op = .unOp .not t x) {b : Bool} (hx : a.eval x = .bool b) : (execOp a.eval o).run P w = .ok (.value (.bool (!b))) w := by
  unfold execOp; simp [ho, hx, Op.unary]
theorem c_seq {t t' : TypeId} {x : Operand} (ho : o.op = .binOp .eql t x (.const (.slice none 0 0)) t') {p : Option Addr} {n c : Nat} (hx : a.eval x = .slice p n c) {e : TypeId} {z : List Value} {s by' : Nat} [h : Si P t e z s by'] : (execOp a.eval o).run P w = .ok (.value (.bool p.isNone)) w := by
  obtain ⟨hu, _⟩ := si_spec h.h
  have e1 : (eqGuard .eql t x (.const (.slice none 0 0)) (.slice p n c) (.slice none 0 0)).run P w = .ok () w := by unfold eqGuard; simp
  have hn : a.eval (.const (.slice none 0 0)) = .slice none 0 0 := rfl
  unfold execOp
  simp only [ho, hx, hn, Sem.run_bind, e1, Result.andThen_ok]
  have e2 : (Op.equal t (.slice p n c) (.slice none 0 0)).run P w = .ok p.isNone w := by
    unfold Op.equal Op.maxDepth
    rw [Op.equalIn]
    simp only [Sem.run_bind, run_underlying hu, Result.andThen_ok]
    cases p <;> rfl
  have e3 : (binOp .eql t (.slice p n c) (.slice none 0 0)).run P w = .ok (.bool p.isNone) w := by
    show ((do pure (Value.bool (← Op.equal t (.slice p n c) (.slice none 0 0))) : Sem Value)).run P w = _
    simp only [Sem.run_bind, e2, Result.andThen_ok, Sem.run_pure]
  simp only [e3, Result.andThen_ok, Sem.run_pure]
theorem pl_ldno {S : World → Prop} {f i : Nat} {k : Plan} (hi : lo[i]? = some o) (hw : Region.wanted o (yielded lo.toArray a.tmps) = false) (hS : i ≠ f → S w) (h : k.wp P lo.toArray Q S f (a.put o.dst undef) w) : Plan.wp P lo.toArray Q S f (.ld i k) a w := by
  unfold Plan.wp wpOp
  have hi' : lo.toArray[i]? = some o := by simpa using hi
  simp only [hi', hw]
  exact ⟨hS, h⟩
end
set_option maxHeartbeats 4000000 in
set_option maxRecDepth 100000 in
theorem clone_any {w : World} (v : Value) (s : List UInt8) (hr : Rd w v s.length (bytesV s)) (hl : s.length ≤ 1000000000) :
    Calls Try.prog 47 #[v] w fun e w' => ∃ v', e = .returned v' ∧ Fr [] w w' ∧ w'.ownsRow w.heap.size 5 1 v' s.length (bytesV s) := by
  obtain ⟨p, c, rfl⟩ := hr.form
  have H := Hp.start [] w
  rcases p with _ | ad
  · have hs : s = [] := by
      rcases hr with ⟨h, _⟩ | ⟨ad, c', h, _⟩
      · exact List.eq_nil_of_length_eq_zero h
      · injection h with h1 _ _; cases h1
    subst hs
    clear hr hl
    go_enter Try.func47, Try.ntmps47
    go_wp2_with (first | ((first | (refine is_load rfl ?_; refine wl_ev rfl (by first | exact c_ld H rfl rfl | exact c_ld0 H rfl rfl | exact c_ldz H rfl rfl | exact c_ldr H rfl rfl | exact c_ln H rfl rfl | exact c_lnp H rfl rfl | exact c_lnz H rfl rfl | exact c_lnr H rfl rfl) ?_) | (refine is_cmp rfl rfl ?_; first | (refine wl_ev rfl (by first | exact c_seq rfl rfl | exact ev_cmpT rfl rfl rfl rfl | exact ev_cmpF rfl rfl rfl rfl | exact c_peq rfl rfl | exact c_pne rfl rfl | exact ev_strEq rfl rfl rfl | exact ev_strNe rfl rfl rfl) ?_) | (refine wl_cmp rfl rfl rfl rfl rfl (fun h => ?_) (fun h => ?_) <;> (simp only [cmpP] at h))) | (refine is_bin (op := .quo) rfl ?_; refine wl_ev rfl (ev_quo rfl rfl rfl) ?_) | (refine is_bin (op := .rem) rfl ?_; refine wl_ev rfl (ev_rem rfl rfl rfl) ?_) | (refine is_slice rfl ?_; refine wl_ev rfl (by first | exact c_ss rfl rfl | exact c_ssh rfl rfl rfl | exact c_ssl rfl rfl rfl | exact c_sslh rfl rfl rfl rfl | exact c_sa rfl rfl | exact c_sah rfl rfl rfl) ?_) | (refine is_build rfl ?_; refine wl_ev rfl (by first | exact c_sta rfl | exact c_stp rfl) ?_) | (refine is_indexAddr rfl ?_; refine wl_ev rfl (c_ix rfl rfl rfl) ?_)) <;> (simp only [nrm, ↓reduceIte, Nat.reduceAdd])) | (refine is_conv rfl ?_; first | fail | (refine wl_ev rfl (by first | exact c_cv rfl rfl | exact c_cv64 rfl rfl | exact c_cv32 rfl rfl | exact c_cv8 rfl rfl) ?_; (simp only [nrm, ↓reduceIte, Nat.reduceAdd]))) | ((first | (refine is_make rfl ?_; refine wl_rw rfl (fun K hK => c_mk H rfl rfl rfl (h := (fun g w1 hg hf H1 => hK _ _ ?_)))) | (refine is_buildSlice rfl ?_; first | (refine wl_rw rfl (fun K hK => c_s1t H rfl rfl rfl (h := (fun g w1 hg hf H1 => hK _ _ ?_)))) | (refine wl_rw rfl (fun K hK => c_s1c H rfl rfl (h := (fun g w1 hg hf H1 => hK _ _ ?_))))) | (refine is_alloc rfl ?_; refine wl_rw rfl (fun K hK => c_al H rfl (fun g w1 hg hf H1 => hK _ _ ?_))) | (refine is_box rfl ?_; first | (refine wl_rw rfl (fun K hK => la_boxN H rfl rfl (fun g w1 hg hf H1 => hK _ _ ?_))) | (refine wl_rw rfl (fun K hK => la_box1 H rfl rfl rfl (fun g w1 hg hf H1 => hK _ _ ?_)))) | (refine is_store rfl ?_; first | (refine wl_rw rfl (fun K hK => c_st H rfl rfl rfl (h := (fun w1 hf H1 => hK _ _ ?_)))) | (refine wl_rw rfl (fun K hK => c_stc H rfl rfl (h := (fun w1 hf H1 => hK _ _ ?_)))) | (refine wl_rw rfl (fun K hK => c_stn H rfl rfl rfl (h := (fun w1 hf H1 => hK _ _ ?_)))))); (clear hK K); (clear H; have H := H1; clear H1; (try dsimp only at H); (try clear hf)); (simp only [nrm, ↓reduceIte, Nat.reduceAdd])))
    (refine bodyPost_ret (results_tmp rfl _ _ _) rfl ?_)
    exact ⟨_, rfl, Fr.refl _ _, World.ownsRow_nil _ _ _ _⟩
  · have Hr := hid hr; clear hr
    by_cases h0 : s.length = 0
    · go_enter Try.func47, Try.ntmps47
      go_wp2_with (first | ((first | (refine is_load rfl ?_; refine wl_ev rfl (by first | exact c_ld H rfl rfl | exact c_ld0 H rfl rfl | exact c_ldz H rfl rfl | exact c_ldr H rfl rfl | exact c_ln H rfl rfl | exact c_lnp H rfl rfl | exact c_lnz H rfl rfl | exact c_lnr H rfl rfl) ?_) | (refine is_cmp rfl rfl ?_; first | (refine wl_ev rfl (by first | exact c_seq rfl rfl | exact ev_cmpT rfl rfl rfl rfl | exact ev_cmpF rfl rfl rfl rfl | exact c_peq rfl rfl | exact c_pne rfl rfl | exact ev_strEq rfl rfl rfl | exact ev_strNe rfl rfl rfl) ?_) | (refine wl_cmp rfl rfl rfl rfl rfl (fun h => ?_) (fun h => ?_) <;> (simp only [cmpP] at h))) | (refine is_bin (op := .quo) rfl ?_; refine wl_ev rfl (ev_quo rfl rfl rfl) ?_) | (refine is_bin (op := .rem) rfl ?_; refine wl_ev rfl (ev_rem rfl rfl rfl) ?_) | (refine is_slice rfl ?_; refine wl_ev rfl (by first | exact c_ss rfl rfl | exact c_ssh rfl rfl rfl | exact c_ssl rfl rfl rfl | exact c_sslh rfl rfl rfl rfl | exact c_sa rfl rfl | exact c_sah rfl rfl rfl) ?_) | (refine is_build rfl ?_; refine wl_ev rfl (by first | exact c_sta rfl | exact c_stp rfl) ?_) | (refine is_indexAddr rfl ?_; refine wl_ev rfl (c_ix rfl rfl rfl) ?_)) <;> (simp only [nrm, ↓reduceIte, Nat.reduceAdd])) | (refine is_conv rfl ?_; first | fail | (refine wl_ev rfl (by first | exact c_cv rfl rfl | exact c_cv64 rfl rfl | exact c_cv32 rfl rfl | exact c_cv8 rfl rfl) ?_; (simp only [nrm, ↓reduceIte, Nat.reduceAdd]))) | ((first | (refine is_make rfl ?_; refine wl_rw rfl (fun K hK => c_mk H rfl rfl rfl (h := (fun g w1 hg hf H1 => hK _ _ ?_)))) | (refine is_buildSlice rfl ?_; first | (refine wl_rw rfl (fun K hK => c_s1t H rfl rfl rfl (h := (fun g w1 hg hf H1 => hK _ _ ?_)))) | (refine wl_rw rfl (fun K hK => c_s1c H rfl rfl (h := (fun g w1 hg hf H1 => hK _ _ ?_))))) | (refine is_alloc rfl ?_; refine wl_rw rfl (fun K hK => c_al H rfl (fun g w1 hg hf H1 => hK _ _ ?_))) | (refine is_box rfl ?_; first | (refine wl_rw rfl (fun K hK => la_boxN H rfl rfl (fun g w1 hg hf H1 => hK _ _ ?_))) | (refine wl_rw rfl (fun K hK => la_box1 H rfl rfl rfl (fun g w1 hg hf H1 => hK _ _ ?_)))) | (refine is_store rfl ?_; first | (refine wl_rw rfl (fun K hK => c_st H rfl rfl rfl (h := (fun w1 hf H1 => hK _ _ ?_)))) | (refine wl_rw rfl (fun K hK => c_stc H rfl rfl (h := (fun w1 hf H1 => hK _ _ ?_)))) | (refine wl_rw rfl (fun K hK => c_stn H rfl rfl rfl (h := (fun w1 hf H1 => hK _ _ ?_)))))); (clear hK K); (clear H; have H := H1; clear H1; (try dsimp only at H); (try clear hf)); (simp only [nrm, ↓reduceIte, Nat.reduceAdd])) | (refine is_buildSlice rfl ?_; refine wl_rw rfl (fun K hK => c_sN H rfl (by repeat first | exact .nil _ | apply Parts.tmp (by rfl) (by rfl) | apply Parts.con (by rfl)) rfl (by intro c hc; simp only [List.mem_cons, List.not_mem_nil, or_false] at hc; (try (rcases hc with rfl | rfl | rfl | rfl | rfl | rfl | rfl | rfl <;> rfl))) (by decide) (by decide) (fun g w1 hg hf H1 => hK _ _ ?_)); (clear hK K); (clear H; have H := H1; clear H1; (try dsimp only at H); (try clear hf)); (simp only [nrm, ↓reduceIte, Nat.reduceAdd])) | (refine is_blt (b := .append) rfl ?_; refine wl_rw rfl (fun K hK => c_apz H rfl rfl rfl (by omega) (fun w1 hf H1 => hK _ _ ?_)); (clear hK K); (clear H; have H := H1; clear H1; (try dsimp only at H); (try clear hf)); (simp only [nrm, ↓reduceIte, Nat.reduceAdd])))
      (refine bodyPost_ret (results_tmp rfl _ _ _) rfl ?_)
      have hs : s = [] := List.eq_nil_of_length_eq_zero h0
      subst hs
      exact ⟨_, rfl, H.fr, ⟨by simp [bytesV], .inr ⟨g, 0, _, rfl, hg.1, H.at g, Nat.le_refl _, Nat.zero_le _, by simp, by simp [bytesV]⟩⟩⟩
    · have hb := bytesV_len s
      have Hb := hid hb; clear hb
      go_enter Try.func47, Try.ntmps47
      go_wp2_with (first | ((first | (refine is_load rfl ?_; refine wl_ev rfl (by first | exact c_ld H rfl rfl | exact c_ld0 H rfl rfl | exact c_ldz H rfl rfl | exact c_ldr H rfl rfl | exact c_ln H rfl rfl | exact c_lnp H rfl rfl | exact c_lnz H rfl rfl | exact c_lnr H rfl rfl) ?_) | (refine is_cmp rfl rfl ?_; first | (refine wl_ev rfl (by first | exact c_seq rfl rfl | exact ev_cmpT rfl rfl rfl rfl | exact ev_cmpF rfl rfl rfl rfl | exact c_peq rfl rfl | exact c_pne rfl rfl | exact ev_strEq rfl rfl rfl | exact ev_strNe rfl rfl rfl) ?_) | (refine wl_cmp rfl rfl rfl rfl rfl (fun h => ?_) (fun h => ?_) <;> (simp only [cmpP] at h))) | (refine is_bin (op := .quo) rfl ?_; refine wl_ev rfl (ev_quo rfl rfl rfl) ?_) | (refine is_bin (op := .rem) rfl ?_; refine wl_ev rfl (ev_rem rfl rfl rfl) ?_) | (refine is_slice rfl ?_; refine wl_ev rfl (by first | exact c_ss rfl rfl | exact c_ssh rfl rfl rfl | exact c_ssl rfl rfl rfl | exact c_sslh rfl rfl rfl rfl | exact c_sa rfl rfl | exact c_sah rfl rfl rfl) ?_) | (refine is_build rfl ?_; refine wl_ev rfl (by first | exact c_sta rfl | exact c_stp rfl) ?_) | (refine is_indexAddr rfl ?_; refine wl_ev rfl (c_ix rfl rfl rfl) ?_)) <;> (simp only [nrm, ↓reduceIte, Nat.reduceAdd])) | (refine is_conv rfl ?_; first | fail | (refine wl_ev rfl (by first | exact c_cv rfl rfl | exact c_cv64 rfl rfl | exact c_cv32 rfl rfl | exact c_cv8 rfl rfl) ?_; (simp only [nrm, ↓reduceIte, Nat.reduceAdd]))) | ((first | (refine is_make rfl ?_; refine wl_rw rfl (fun K hK => c_mk H rfl rfl rfl (h := (fun g w1 hg hf H1 => hK _ _ ?_)))) | (refine is_buildSlice rfl ?_; first | (refine wl_rw rfl (fun K hK => c_s1t H rfl rfl rfl (h := (fun g w1 hg hf H1 => hK _ _ ?_)))) | (refine wl_rw rfl (fun K hK => c_s1c H rfl rfl (h := (fun g w1 hg hf H1 => hK _ _ ?_))))) | (refine is_alloc rfl ?_; refine wl_rw rfl (fun K hK => c_al H rfl (fun g w1 hg hf H1 => hK _ _ ?_))) | (refine is_box rfl ?_; first | (refine wl_rw rfl (fun K hK => la_boxN H rfl rfl (fun g w1 hg hf H1 => hK _ _ ?_))) | (refine wl_rw rfl (fun K hK => la_box1 H rfl rfl rfl (fun g w1 hg hf H1 => hK _ _ ?_)))) | (refine is_store rfl ?_; first | (refine wl_rw rfl (fun K hK => c_st H rfl rfl rfl (h := (fun w1 hf H1 => hK _ _ ?_)))) | (refine wl_rw rfl (fun K hK => c_stc H rfl rfl (h := (fun w1 hf H1 => hK _ _ ?_)))) | (refine wl_rw rfl (fun K hK => c_stn H rfl rfl rfl (h := (fun w1 hf H1 => hK _ _ ?_)))))); (clear hK K); (clear H; have H := H1; clear H1; (try dsimp only at H); (try clear hf)); (simp only [nrm, ↓reduceIte, Nat.reduceAdd])) | (refine is_buildSlice rfl ?_; refine wl_rw rfl (fun K hK => c_sN H rfl (by repeat first | exact .nil _ | apply Parts.tmp (by rfl) (by rfl) | apply Parts.con (by rfl)) rfl (by intro c hc; simp only [List.mem_cons, List.not_mem_nil, or_false] at hc; (try (rcases hc with rfl | rfl | rfl | rfl | rfl | rfl | rfl | rfl <;> rfl))) (by decide) (by decide) (fun g w1 hg hf H1 => hK _ _ ?_)); (clear hK K); (clear H; have H := H1; clear H1; (try dsimp only at H); (try clear hf)); (simp only [nrm, ↓reduceIte, Nat.reduceAdd])) | (refine is_blt (b := .append) rfl ?_; go_loud (refine wl_rw rfl (fun K hK => c_apo H rfl rfl rfl List.prefix_rfl rfl rfl (Nat.zero_le _) (Hr.out.fr H.fr (by simp)) (by rw [Hb.out]; omega) (bytesV_one _) (by omega) (by omega) (by first | omega | (unfold maxLen; omega)) (fun g w1 cap pad hg hc hcm hpl hf H1 => hK _ _ ?_))); (clear hK K); (clear H; have H := H1; clear H1; (try dsimp only at H); (try clear hf)); (simp only [nrm, ↓reduceIte, Nat.reduceAdd])))
      (refine bodyPost_ret (results_tmp rfl _ _ _) rfl ?_)
      simp only [List.flatten_nil, List.nil_append] at H hpl
      exact ⟨_, rfl, H.fr, H.own (by rcases hg with rfl | h <;> omega) (by omega) hcm hpl (by rw [Hb.out]; omega)⟩
theorem equal_same {w : World} (v1 v2 : Value) (xs ys : List UInt8) (h1 : Rd w v1 xs.length (bytesV xs)) (h2 : Rd w v2 ys.length (bytesV ys)) (he : xs = ys) (hx : xs.length ≤ 1000000000) :
    Calls Try.prog 50 #[v1, v2] w fun e w' => e = .returned (.bool true) ∧ Fr [] w w' := by
  have := equal_any v1 v2 xs ys h1 h2 hx (he ▸ hx)
  rwa [decide_eq_true he] at this
theorem equal_not {w : World} (v1 v2 : Value) (xs ys : List UInt8) (h1 : Rd w v1 xs.length (bytesV xs)) (h2 : Rd w v2 ys.length (bytesV ys)) (he : xs ≠ ys) (hx : xs.length ≤ 1000000000) (hy : ys.length ≤ 1000000000) :
    Calls Try.prog 50 #[v1, v2] w fun e w' => e = .returned (.bool false) ∧ Fr [] w w' := by
  have := equal_any v1 v2 xs ys h1 h2 hx hy
  rwa [decide_eq_false he] at this
/-- Does a block of bytes b hold part t of p of record r? -/
def partOk (b : List UInt8) (r t p : Nat) : Bool := decide (8 ≤ b.length ∧ b.take 8 = hdr r t p ∧ (b.length = 64 ∨ (t + 1 = p ∧ (8 < b.length ∨ p = 1))))
end Go.Proofs.Ytgnpgikbdomdpaa
