/-
  The pool's New; the methods of a nil pool; equal lists of numbers; the chapter's example.
-/
import Derived.Test.YthlhjjokodmihaaPl6
namespace Go.Proofs.Ythlhjjokodmihaa
open Go.RowKit
set_option linter.unusedSimpArgs false
set_option linter.unusedVariables false
def newS (par own : List Int) (k : Int) : PS := resumeS par own k (List.replicate par.length false) (List.replicate par.length false)
theorem new_err (par own : List Int) (k : Int) : resumeE par own k (List.replicate par.length false) (List.replicate par.length false) = checkP par own k := by
  unfold resumeE
  split
  · rfl
  · rename_i h
    have h0 : checkP par own k = 0 := by omega
    rw [if_neg (by simp)]
    have hc : consP par (List.replicate par.length false) (List.replicate par.length false) = true := by
      unfold consP
      rw [any_no]
      · rfl
      · intro i hi
        unfold badC
        have hz : ∀ j, (List.replicate par.length false)[j]?.getD false = false := fun j => by
          rw [List.getElem?_replicate]; split <;> rfl
        rw [hz, hz]; simp
    rw [hc, h0]; rfl
theorem zeros_bools (n : Nat) : (List.replicate n [Value.bool false]).flatten = boolsV (List.replicate n false) := by
  induction n with
  | zero => rfl
  | succ n ih => rw [List.replicate_succ, List.flatten_cons, ih, List.replicate_succ]; rfl
theorem resume_anyN {w : World} {p q r u : Option Addr} {c d e f n m : Nat} (par own : List Int) (k : Int) (fin bro : List Bool) (hfl : fin.length = n) (hbl : bro.length = m) (hp : Rd w (.slice p par.length c) par.length (ints par)) (hpn : p = none → c = 0) (hq : Rd w (.slice q own.length d) own.length (ints own)) (hqn : q = none → d = 0) (hol : own.length ≤ 1000000)
    (hr : Rd w (.slice r n e) n (boolsV fin)) (hu : Rd w (.slice u m f) m (boolsV bro)) :
    Calls Try.prog 23 #[.slice p par.length c, .slice q own.length d, .int .i64 k, .slice r n e, .slice u m f] w fun e w' => ∃ v, e = .returned (.tuple #[v, .int .i64 (resumeE par own k fin bro)]) ∧ Fr [] w w' ∧
      (resumeE par own k fin bro = 0 ∧ (∃ A : PA, v = .pointer (some ⟨A.b, 0, none⟩) ∧ PoolIn A (resumeS par own k fin bro) w' ∧ ∀ x ∈ A.S, w.heap.size ≤ x) ∨ resumeE par own k fin bro ≠ 0 ∧ v = .pointer none) := by
  subst hfl hbl
  exact resume_any par own k fin bro hp hpn hq hqn hol hr hu
set_option maxHeartbeats 4000000 in
set_option maxRecDepth 100000 in
theorem new_any {w : World} {p q : Option Addr} {c d : Nat} (par own : List Int) (k : Int) (hp : Rd w (.slice p par.length c) par.length (ints par)) (hpn : p = none → c = 0) (hpl : par.length ≤ 1000000) (hq : Rd w (.slice q own.length d) own.length (ints own)) (hqn : q = none → d = 0) (hol : own.length ≤ 1000000) :
    Calls Try.prog 10 #[.slice p par.length c, .slice q own.length d, .int .i64 k] w fun e w' => ∃ v, e = .returned (.tuple #[v, .int .i64 (checkP par own k)]) ∧ Fr [] w w' ∧
      (checkP par own k = 0 ∧ (∃ A : PA, v = .pointer (some ⟨A.b, 0, none⟩) ∧ PoolIn A (newS par own k) w' ∧ ∀ x ∈ A.S, w.heap.size ≤ x) ∨ checkP par own k ≠ 0 ∧ v = .pointer none) := by
  have Hp0 := hid hp
  have Hq0 := hid hq
  have Hpn := hid hpn
  have Hqn := hid hqn
  clear hp hq hpn hqn
  have H := Hp.start [] w
  have hone : ∀ w1 w2, Fr [] w w1 → Fr [] w1 w2 → ∀ v : Value, (resumeE par own k (List.replicate par.length false) (List.replicate par.length false) = 0 ∧ (∃ A : PA, v = .pointer (some ⟨A.b, 0, none⟩) ∧ PoolIn A (resumeS par own k (List.replicate par.length false) (List.replicate par.length false)) w2 ∧ ∀ x ∈ A.S, w1.heap.size ≤ x) ∨ resumeE par own k (List.replicate par.length false) (List.replicate par.length false) ≠ 0 ∧ v = .pointer none) → (checkP par own k = 0 ∧ (∃ A : PA, v = .pointer (some ⟨A.b, 0, none⟩) ∧ PoolIn A (newS par own k) w2 ∧ ∀ x ∈ A.S, w.heap.size ≤ x) ∨ checkP par own k ≠ 0 ∧ v = .pointer none) := by
    intro w1 w2 h1 h2 v h
    rw [new_err] at h
    rcases h with ⟨h3, A, h4, h5, h6⟩ | h
    · exact .inl ⟨h3, A, h4, h5, fun x hx => Nat.le_trans h1.size (h6 x hx)⟩
    · exact .inr h
  have Hone := hid hone
  clear hone
  go_enter Try.func10, Try.ntmps10
  go_wp2_with (first | ((first | (refine is_make rfl ?_; refine wl_rw rfl (fun K hK => c_mk H rfl rfl rfl (h := (fun g w1 hg hf H1 => hK _ _ ?_))))    ); (clear hK K); (clear H; have H := H1; clear H1; (try dsimp only at H); (try clear hf)); (simp only [nrm, ↓reduceIte, Nat.reduceAdd])))
  (refine wp_plan H (List.Sublist.refl _) 14 (.st 0 (.st 1 (.st 2 (.st 3 (.st 4 (.st 6 (.st 7 (.ld2 5 (.ld 8 (.ld 9 (.st 10 (.st 11 (.st 12 (.st 13 .done)))))) 8 (.ld 5 (.ld 9 (.st 10 (.st 11 (.st 12 (.st 13 .done)))))))))))))) rfl (by kernel_rfl) (by kernel_rfl) (by intro c a d v w h; cases d <;> exact h) (fun w1 H1 => ?_); (clear H; have H := H1; clear H1))
  (refine pl_ev rfl rfl (fun w H => ev_moveT rfl rfl) ?_; (simp only [nrm, ↓reduceIte, Nat.reduceAdd]))
  (refine pl_ev rfl rfl (fun w H => ev_moveT rfl rfl) ?_; (simp only [nrm, ↓reduceIte, Nat.reduceAdd]))
  (refine pl_ev rfl rfl (fun w H => ev_moveT rfl rfl) ?_; (simp only [nrm, ↓reduceIte, Nat.reduceAdd]))
  (refine pl_ev rfl rfl (fun w H => ev_moveT rfl rfl) ?_; (simp only [nrm, ↓reduceIte, Nat.reduceAdd]))
  (refine pl_ev rfl rfl (fun w H => by first | exact c_len rfl rfl | exact ev_strLen rfl rfl) ?_; (simp only [nrm, ↓reduceIte, Nat.reduceAdd]))
  (refine pl_ev rfl rfl (fun w H => ev_moveT rfl rfl) ?_; (simp only [nrm, ↓reduceIte, Nat.reduceAdd]))
  (refine pl_ev rfl rfl (fun w H => by first | exact c_len rfl rfl | exact ev_strLen rfl rfl) ?_; (simp only [nrm, ↓reduceIte, Nat.reduceAdd]))
  (refine pl_ld2 ?_ ?_)
  (refine pl_rw rfl rfl (fun K hK => c_mk H rfl rfl rfl (h := fun g5 w1 hg hf H1 => hK _ _ (fun hne => by first | exact absurd rfl hne | exact trivial | exact H1.sub (by repeat first | exact List.Sublist.refl _ | exact List.nil_sublist _ | apply List.Sublist.cons_cons | apply List.Sublist.cons)) ?_)); (clear hK K); (clear H; have H := H1; clear H1; (try dsimp only at H); (try clear hf)); (simp only [nrm, ↓reduceIte, Nat.reduceAdd]))
  (refine pl_rw rfl rfl (fun K hK => c_mk H rfl rfl rfl (h := fun g8 w1 hg hf H1 => hK _ _ (fun hne => by first | exact absurd rfl hne | exact trivial | exact H1.sub (by repeat first | exact List.Sublist.refl _ | exact List.nil_sublist _ | apply List.Sublist.cons_cons | apply List.Sublist.cons)) ?_)); (clear hK K); (clear H; have H := H1; clear H1; (try dsimp only at H); (try clear hf)); (simp only [nrm, ↓reduceIte, Nat.reduceAdd]))
  ((refine pl_rw rfl rfl (fun K hK => rw_call rfl Try.func23 (by kernel_rfl) rfl (resume_anyN (n := par.length) (m := par.length) par own k (List.replicate par.length false) (List.replicate par.length false) List.length_replicate List.length_replicate (Hp0.out.fr H.fr (by simp)) Hpn.out (Hq0.out.fr H.fr (by simp)) Hqn.out hol (by have h := H.rd (b := g5) (off := 0) (n := par.length) (c := par.length) (vs := (List.replicate par.length [Value.bool false]).flatten) List.prefix_rfl; rw [zeros_bools] at h; exact h) (by have h := H.rd (b := g8) (off := 0) (n := par.length) (c := par.length) (vs := (List.replicate par.length [Value.bool false]).flatten) List.prefix_rfl; rw [zeros_bools] at h; exact h)) (fun e w1 hpost => ?_))); obtain ⟨v, rfl, hF, hres⟩ := hpost; refine ⟨_, rfl, ?_⟩; have hres := Hone.out _ _ H.fr hF _ hres; rw [new_err]; have H1 := H.step hF (by simp); refine hK _ _ (fun hne => by first | exact absurd rfl hne | exact H1.sub (by repeat first | exact List.Sublist.refl _ | exact List.nil_sublist _ | apply List.Sublist.cons_cons | apply List.Sublist.cons)) ?_; clear hK K; (clear H; have H := H1; clear H1); have hres := hid hres; (simp only [nrm, ↓reduceIte, Nat.reduceAdd]))
  (refine pl_ev rfl rfl (fun w H => ev_extract rfl rfl rfl) ?_; (simp only [nrm, ↓reduceIte, Nat.reduceAdd]))
  (refine pl_ev rfl rfl (fun w H => ev_extract rfl rfl rfl) ?_; (simp only [nrm, ↓reduceIte, Nat.reduceAdd]))
  (refine pl_ev rfl rfl (fun w H => ev_assignT rfl rfl) ?_; (simp only [nrm, ↓reduceIte, Nat.reduceAdd]))
  (refine pl_ev rfl rfl (fun w H => ev_assignT rfl rfl) ?_; (simp only [nrm, ↓reduceIte, Nat.reduceAdd]))
  (refine pl_done ?_)
  rotate_left
  (refine pl_rw rfl rfl (fun K hK => c_mk H rfl rfl rfl (h := fun g8 w1 hg hf H1 => hK _ _ (fun hne => by first | exact absurd rfl hne | exact trivial | exact H1.sub (by repeat first | exact List.Sublist.refl _ | exact List.nil_sublist _ | apply List.Sublist.cons_cons | apply List.Sublist.cons)) ?_)); (clear hK K); (clear H; have H := H1; clear H1; (try dsimp only at H); (try clear hf)); (simp only [nrm, ↓reduceIte, Nat.reduceAdd]))
  (refine pl_rw rfl rfl (fun K hK => c_mk H rfl rfl rfl (h := fun g5 w1 hg hf H1 => hK _ _ (fun hne => by first | exact absurd rfl hne | exact trivial | exact H1.sub (by repeat first | exact List.Sublist.refl _ | exact List.nil_sublist _ | apply List.Sublist.cons_cons | apply List.Sublist.cons)) ?_)); (clear hK K); (clear H; have H := H1; clear H1; (try dsimp only at H); (try clear hf)); (simp only [nrm, ↓reduceIte, Nat.reduceAdd]))
  ((refine pl_rw rfl rfl (fun K hK => rw_call rfl Try.func23 (by kernel_rfl) rfl (resume_anyN (n := par.length) (m := par.length) par own k (List.replicate par.length false) (List.replicate par.length false) List.length_replicate List.length_replicate (Hp0.out.fr H.fr (by simp)) Hpn.out (Hq0.out.fr H.fr (by simp)) Hqn.out hol (by have h := H.rd (b := g5) (off := 0) (n := par.length) (c := par.length) (vs := (List.replicate par.length [Value.bool false]).flatten) List.prefix_rfl; rw [zeros_bools] at h; exact h) (by have h := H.rd (b := g8) (off := 0) (n := par.length) (c := par.length) (vs := (List.replicate par.length [Value.bool false]).flatten) List.prefix_rfl; rw [zeros_bools] at h; exact h)) (fun e w1 hpost => ?_))); obtain ⟨v, rfl, hF, hres⟩ := hpost; refine ⟨_, rfl, ?_⟩; have hres := Hone.out _ _ H.fr hF _ hres; rw [new_err]; have H1 := H.step hF (by simp); refine hK _ _ (fun hne => by first | exact absurd rfl hne | exact H1.sub (by repeat first | exact List.Sublist.refl _ | exact List.nil_sublist _ | apply List.Sublist.cons_cons | apply List.Sublist.cons)) ?_; clear hK K; (clear H; have H := H1; clear H1); have hres := hid hres; (simp only [nrm, ↓reduceIte, Nat.reduceAdd]))
  (refine pl_ev rfl rfl (fun w H => ev_extract rfl rfl rfl) ?_; (simp only [nrm, ↓reduceIte, Nat.reduceAdd]))
  (refine pl_ev rfl rfl (fun w H => ev_extract rfl rfl rfl) ?_; (simp only [nrm, ↓reduceIte, Nat.reduceAdd]))
  (refine pl_ev rfl rfl (fun w H => ev_assignT rfl rfl) ?_; (simp only [nrm, ↓reduceIte, Nat.reduceAdd]))
  (refine pl_ev rfl rfl (fun w H => ev_assignT rfl rfl) ?_; (simp only [nrm, ↓reduceIte, Nat.reduceAdd]))
  (refine pl_done ?_)
  rotate_left
  all_goals
    go_wp2_with (first | ((first | (refine is_make rfl ?_; refine wl_rw rfl (fun K hK => c_mk H rfl rfl rfl (h := (fun g w1 hg hf H1 => hK _ _ ?_))))    ); (clear hK K); (clear H; have H := H1; clear H1; (try dsimp only at H); (try clear hf)); (simp only [nrm, ↓reduceIte, Nat.reduceAdd])))
    go_ret2
    exact ⟨v, rfl, H.fr, hres.out⟩
set_option maxHeartbeats 4000000 in
set_option maxRecDepth 100000 in
theorem nil_take (w : World) (wi : Int) : Calls Try.prog 14 #[.pointer none, .int .i64 wi] w fun e w' => e = .returned (.tuple #[.int .i64 (-1), .int .i64 1]) ∧ Fr [] w w' := by
  have H := Hp.start [] w
  go_enter Try.func14, Try.ntmps14
  go_wp2_with (first | ((first | (refine is_load rfl ?_; refine wl_ev rfl (by first | exact c_ld H rfl rfl | exact c_ld0 H rfl rfl | exact c_ldz H rfl rfl | exact c_ldr H rfl rfl) ?_) | (refine is_cmp rfl rfl ?_; first | (refine wl_ev rfl (by first | exact ev_cmpT rfl rfl rfl rfl | exact ev_cmpF rfl rfl rfl rfl | exact c_peq rfl rfl | exact c_pne rfl rfl) ?_) | (refine wl_cmp rfl rfl rfl rfl rfl (fun h => ?_) (fun h => ?_) <;> (simp only [cmpP] at h))) | (refine is_indexAddr rfl ?_; refine wl_ev rfl (c_ix rfl rfl rfl) ?_)) <;> (simp only [nrm, ↓reduceIte, Nat.reduceAdd])) | ((first | (refine is_store rfl ?_; first | (refine wl_rw rfl (fun K hK => c_st H rfl rfl rfl (h := (fun w1 hf H1 => hK _ _ ?_)))) | (refine wl_rw rfl (fun K hK => c_stc H rfl rfl (h := (fun w1 hf H1 => hK _ _ ?_)))))); (clear hK K); (clear H; have H := H1; clear H1; (try dsimp only at H); (try clear hf)); (simp only [nrm, ↓reduceIte, Nat.reduceAdd])))
  go_ret2
  exact ⟨rfl, H.fr⟩
set_option maxHeartbeats 4000000 in
set_option maxRecDepth 100000 in
theorem nil_end (w : World) (wi st : Int) : Calls Try.prog 32 #[.pointer none, .int .i64 wi, .int .i64 st] w fun e w' => e = .returned (.tuple #[.int .i64 (-1), .int .i64 1]) ∧ Fr [] w w' := by
  have H := Hp.start [] w
  go_enter Try.func32, Try.ntmps32
  go_wp2_with (first | ((first | (refine is_load rfl ?_; refine wl_ev rfl (by first | exact c_ld H rfl rfl | exact c_ld0 H rfl rfl | exact c_ldz H rfl rfl | exact c_ldr H rfl rfl) ?_) | (refine is_cmp rfl rfl ?_; first | (refine wl_ev rfl (by first | exact ev_cmpT rfl rfl rfl rfl | exact ev_cmpF rfl rfl rfl rfl | exact c_peq rfl rfl | exact c_pne rfl rfl) ?_) | (refine wl_cmp rfl rfl rfl rfl rfl (fun h => ?_) (fun h => ?_) <;> (simp only [cmpP] at h))) | (refine is_indexAddr rfl ?_; refine wl_ev rfl (c_ix rfl rfl rfl) ?_)) <;> (simp only [nrm, ↓reduceIte, Nat.reduceAdd])) | ((first | (refine is_store rfl ?_; first | (refine wl_rw rfl (fun K hK => c_st H rfl rfl rfl (h := (fun w1 hf H1 => hK _ _ ?_)))) | (refine wl_rw rfl (fun K hK => c_stc H rfl rfl (h := (fun w1 hf H1 => hK _ _ ?_)))))); (clear hK K); (clear H; have H := H1; clear H1; (try dsimp only at H); (try clear hf)); (simp only [nrm, ↓reduceIte, Nat.reduceAdd])))
  go_ret2
  exact ⟨rfl, H.fr⟩
set_option maxHeartbeats 4000000 in
set_option maxRecDepth 100000 in
theorem nil_finish (w : World) (wi : Int) : Calls Try.prog 15 #[.pointer none, .int .i64 wi] w fun e w' => e = .returned (.tuple #[.int .i64 (-1), .int .i64 1]) ∧ Fr [] w w' := by
  have H := Hp.start [] w
  go_enter Try.func15, Try.ntmps15
  go_wp2_with (first | fail)
  (refine Calls.mono (nil_end _ wi 3) ?_; rintro e w1 ⟨rfl, hF⟩; have H1 := H.step hF (by simp); clear H; have H := H1; clear H1)
  go_wp2_with (first | fail)
  go_ret2
  exact ⟨rfl, H.fr⟩
set_option maxHeartbeats 4000000 in
set_option maxRecDepth 100000 in
theorem nil_fail (w : World) (wi : Int) : Calls Try.prog 25 #[.pointer none, .int .i64 wi] w fun e w' => e = .returned (.tuple #[.int .i64 (-1), .int .i64 1]) ∧ Fr [] w w' := by
  have H := Hp.start [] w
  go_enter Try.func25, Try.ntmps25
  go_wp2_with (first | fail)
  (refine Calls.mono (nil_end _ wi 4) ?_; rintro e w1 ⟨rfl, hF⟩; have H1 := H.step hF (by simp); clear H; have H := H1; clear H1)
  go_wp2_with (first | fail)
  go_ret2
  exact ⟨rfl, H.fr⟩
set_option maxHeartbeats 4000000 in
set_option maxRecDepth 100000 in
theorem nil_lose (w : World) (wi : Int) : Calls Try.prog 16 #[.pointer none, .int .i64 wi] w fun e w' => e = .returned (.int .i64 1) ∧ Fr [] w w' := by
  have H := Hp.start [] w
  go_enter Try.func16, Try.ntmps16
  go_wp2_with (first | ((first | (refine is_load rfl ?_; refine wl_ev rfl (by first | exact c_ld H rfl rfl | exact c_ld0 H rfl rfl | exact c_ldz H rfl rfl | exact c_ldr H rfl rfl) ?_) | (refine is_cmp rfl rfl ?_; first | (refine wl_ev rfl (by first | exact ev_cmpT rfl rfl rfl rfl | exact ev_cmpF rfl rfl rfl rfl | exact c_peq rfl rfl | exact c_pne rfl rfl) ?_) | (refine wl_cmp rfl rfl rfl rfl rfl (fun h => ?_) (fun h => ?_) <;> (simp only [cmpP] at h))) | (refine is_indexAddr rfl ?_; refine wl_ev rfl (c_ix rfl rfl rfl) ?_)) <;> (simp only [nrm, ↓reduceIte, Nat.reduceAdd])) | ((first | (refine is_store rfl ?_; first | (refine wl_rw rfl (fun K hK => c_st H rfl rfl rfl (h := (fun w1 hf H1 => hK _ _ ?_)))) | (refine wl_rw rfl (fun K hK => c_stc H rfl rfl (h := (fun w1 hf H1 => hK _ _ ?_)))))); (clear hK K); (clear H; have H := H1; clear H1; (try dsimp only at H); (try clear hf)); (simp only [nrm, ↓reduceIte, Nat.reduceAdd])))
  go_ret
  exact ⟨rfl, H.fr⟩
set_option maxHeartbeats 4000000 in
set_option maxRecDepth 100000 in
theorem nil_join (w : World) (wi : Int) : Calls Try.prog 17 #[.pointer none, .int .i64 wi] w fun e w' => e = .returned (.int .i64 1) ∧ Fr [] w w' := by
  have H := Hp.start [] w
  go_enter Try.func17, Try.ntmps17
  go_wp2_with (first | ((first | (refine is_load rfl ?_; refine wl_ev rfl (by first | exact c_ld H rfl rfl | exact c_ld0 H rfl rfl | exact c_ldz H rfl rfl | exact c_ldr H rfl rfl) ?_) | (refine is_cmp rfl rfl ?_; first | (refine wl_ev rfl (by first | exact ev_cmpT rfl rfl rfl rfl | exact ev_cmpF rfl rfl rfl rfl | exact c_peq rfl rfl | exact c_pne rfl rfl) ?_) | (refine wl_cmp rfl rfl rfl rfl rfl (fun h => ?_) (fun h => ?_) <;> (simp only [cmpP] at h))) | (refine is_indexAddr rfl ?_; refine wl_ev rfl (c_ix rfl rfl rfl) ?_)) <;> (simp only [nrm, ↓reduceIte, Nat.reduceAdd])) | ((first | (refine is_store rfl ?_; first | (refine wl_rw rfl (fun K hK => c_st H rfl rfl rfl (h := (fun w1 hf H1 => hK _ _ ?_)))) | (refine wl_rw rfl (fun K hK => c_stc H rfl rfl (h := (fun w1 hf H1 => hK _ _ ?_)))))); (clear hK K); (clear H; have H := H1; clear H1; (try dsimp only at H); (try clear hf)); (simp only [nrm, ↓reduceIte, Nat.reduceAdd])))
  go_ret
  exact ⟨rfl, H.fr⟩
set_option maxHeartbeats 4000000 in
set_option maxRecDepth 100000 in
theorem nil_ready (w : World) (wi : Int) : Calls Try.prog 20 #[.pointer none, .int .i64 wi] w fun e w' => e = .returned (.slice none 0 0) ∧ Fr [] w w' := by
  have H := Hp.start [] w
  go_enter Try.func20, Try.ntmps20
  go_wp2_with (first | ((first | (refine is_cmp rfl rfl ?_; first | (refine wl_ev rfl (by first | exact ev_cmpT rfl rfl rfl rfl | exact ev_cmpF rfl rfl rfl rfl | exact c_peq rfl rfl | exact c_pne rfl rfl) ?_) | (refine wl_cmp rfl rfl rfl rfl rfl (fun h => ?_) (fun h => ?_) <;> (simp only [cmpP] at h)))     ) <;> (simp only [nrm, ↓reduceIte, Nat.reduceAdd]))  )
  go_ret
  exact ⟨rfl, H.fr⟩
set_option maxHeartbeats 4000000 in
set_option maxRecDepth 100000 in
theorem nil_running (w : World) (wi : Int) : Calls Try.prog 19 #[.pointer none, .int .i64 wi] w fun e w' => e = .returned (.int .i64 (-1)) ∧ Fr [] w w' := by
  have H := Hp.start [] w
  go_enter Try.func19, Try.ntmps19
  go_wp2_with (first | ((first | (refine is_load rfl ?_; refine wl_ev rfl (by first | exact c_ld H rfl rfl | exact c_ld0 H rfl rfl | exact c_ldz H rfl rfl | exact c_ldr H rfl rfl) ?_) | (refine is_cmp rfl rfl ?_; first | (refine wl_ev rfl (by first | exact ev_cmpT rfl rfl rfl rfl | exact ev_cmpF rfl rfl rfl rfl | exact c_peq rfl rfl | exact c_pne rfl rfl) ?_) | (refine wl_cmp rfl rfl rfl rfl rfl (fun h => ?_) (fun h => ?_) <;> (simp only [cmpP] at h))) | (refine is_indexAddr rfl ?_; refine wl_ev rfl (c_ix rfl rfl rfl) ?_)) <;> (simp only [nrm, ↓reduceIte, Nat.reduceAdd]))  )
  go_ret
  exact ⟨rfl, H.fr⟩
set_option maxHeartbeats 4000000 in
set_option maxRecDepth 100000 in
theorem nil_live (w : World) (wi : Int) : Calls Try.prog 26 #[.pointer none, .int .i64 wi] w fun e w' => e = .returned (.bool false) ∧ Fr [] w w' := by
  have H := Hp.start [] w
  go_enter Try.func26, Try.ntmps26
  go_wp2_with (first | ((first | (refine is_cmp rfl rfl ?_; first | (refine wl_ev rfl (by first | exact ev_cmpT rfl rfl rfl rfl | exact ev_cmpF rfl rfl rfl rfl | exact c_peq rfl rfl | exact c_pne rfl rfl) ?_) | (refine wl_cmp rfl rfl rfl rfl rfl (fun h => ?_) (fun h => ?_) <;> (simp only [cmpP] at h)))     ) <;> (simp only [nrm, ↓reduceIte, Nat.reduceAdd]))  )
  go_ret
  exact ⟨rfl, H.fr⟩
set_option maxHeartbeats 4000000 in
set_option maxRecDepth 100000 in
theorem nil_done (w : World) : Calls Try.prog 27 #[.pointer none] w fun e w' => e = .returned (.slice none 0 0) ∧ Fr [] w w' := by
  have H := Hp.start [] w
  go_enter Try.func27, Try.ntmps27
  go_wp2_with (first | ((first | (refine is_load rfl ?_; refine wl_ev rfl (by first | exact c_ld H rfl rfl | exact c_ld0 H rfl rfl | exact c_ldz H rfl rfl | exact c_ldr H rfl rfl) ?_) | (refine is_cmp rfl rfl ?_; first | (refine wl_ev rfl (by first | exact ev_cmpT rfl rfl rfl rfl | exact ev_cmpF rfl rfl rfl rfl | exact c_peq rfl rfl | exact c_pne rfl rfl) ?_) | (refine wl_cmp rfl rfl rfl rfl rfl (fun h => ?_) (fun h => ?_) <;> (simp only [cmpP] at h))) | (refine is_indexAddr rfl ?_; refine wl_ev rfl (c_ix rfl rfl rfl) ?_)) <;> (simp only [nrm, ↓reduceIte, Nat.reduceAdd])) | ((first | (refine is_buildSlice rfl ?_; first | (refine wl_rw rfl (fun K hK => c_s1t H rfl rfl rfl (h := (fun g w1 hg hf H1 => hK _ _ ?_)))) | (refine wl_rw rfl (fun K hK => c_s1c H rfl rfl (h := (fun g w1 hg hf H1 => hK _ _ ?_)))))   ); (clear hK K); (clear H; have H := H1; clear H1; (try dsimp only at H); (try clear hf)); (simp only [nrm, ↓reduceIte, Nat.reduceAdd])))
  go_ret
  exact ⟨rfl, H.fr⟩
set_option maxHeartbeats 4000000 in
set_option maxRecDepth 100000 in
theorem nil_left (w : World) : Calls Try.prog 18 #[.pointer none] w fun e w' => e = .returned (.int .i64 0) ∧ Fr [] w w' := by
  have H := Hp.start [] w
  go_enter Try.func18, Try.ntmps18
  go_wp2_with (first | ((first | (refine is_load rfl ?_; refine wl_ev rfl (by first | exact c_ld H rfl rfl | exact c_ld0 H rfl rfl | exact c_ldz H rfl rfl | exact c_ldr H rfl rfl) ?_) | (refine is_cmp rfl rfl ?_; first | (refine wl_ev rfl (by first | exact ev_cmpT rfl rfl rfl rfl | exact ev_cmpF rfl rfl rfl rfl | exact c_peq rfl rfl | exact c_pne rfl rfl) ?_) | (refine wl_cmp rfl rfl rfl rfl rfl (fun h => ?_) (fun h => ?_) <;> (simp only [cmpP] at h))) | (refine is_indexAddr rfl ?_; refine wl_ev rfl (c_ix rfl rfl rfl) ?_)) <;> (simp only [nrm, ↓reduceIte, Nat.reduceAdd]))  )
  go_ret
  exact ⟨rfl, H.fr⟩
set_option maxHeartbeats 4000000 in
set_option maxRecDepth 100000 in
/-- Equal lists of numbers are found to be equal. -/
theorem ints_same {w : World} {p q : Option Addr} {c d n m : Nat} (l : List Int) (hn : l.length = n) (hm : l.length = m) (hl : n ≤ 1000000) (hp : Rd w (.slice p n c) n (ints l)) (hq : Rd w (.slice q m d) m (ints l)) :
    Calls Try.prog 28 #[.slice p n c, .slice q m d] w fun e w' => e = .returned (.bool true) ∧ Fr [] w w' := by
  have hnm1 : n ≤ m := by omega
  have hnm2 : m ≤ n := by omega
  have Hn := hid hn
  have Hp0 := hid hp
  have Hq0 := hid hq
  have Hm := hid hm
  clear hn hm hp hq
  have H := Hp.start [] w
  go_enter Try.func28, Try.ntmps28
  go_wp2_with (first | ((first | (refine is_load rfl ?_; refine wl_ev rfl (by first | exact c_ld H rfl rfl | exact c_ld0 H rfl rfl | exact c_ldz H rfl rfl | exact c_ldr H rfl rfl) ?_) | (refine is_cmp rfl rfl ?_; first | (refine wl_ev rfl (by first | exact ev_cmpT rfl rfl rfl rfl | exact ev_cmpF rfl rfl rfl rfl) ?_) | (refine wl_cmp rfl rfl rfl rfl rfl (fun h => ?_) (fun h => ?_) <;> (simp only [cmpP] at h))) | (refine is_indexAddr rfl ?_; refine wl_ev rfl (c_ix rfl rfl rfl) ?_)) <;> (simp only [nrm, ↓reduceIte, Nat.reduceAdd]))  )
  go_loopw [5] (fun s5 wr => ∃ i : Nat, i ≤ n ∧ s5 = .int .i64 i ∧ Hp [] w wr []) (fun v _ => n - (intOf v).toNat)
  case atStart => exact ⟨0, Nat.zero_le _, rfl, H⟩
  case round =>
    clear H
    obtain ⟨i, hi, rfl, H⟩ := hrel
    by_cases hin : i < n
    · obtain ⟨x, hx⟩ : ∃ x, l[i]? = some x := ⟨_, List.getElem?_eq_getElem (by rw [Hn.out]; exact hin)⟩
      have hxv := ints_at hx
      clear hx
      obtain ⟨b0, off0, rfl, hb0, hcell0⟩ := Hp0.out.rng (ints_ne (i := i) (by rw [Hn.out]; exact hin))
      obtain ⟨b1, off1, rfl, hb1, hcell1⟩ := Hq0.out.rng (ints_ne (i := i) (by rw [Hn.out]; exact hin))
      have H1 := (H.pushRng (b := b0) (off := off0) hb0 (by simp) hcell0).pushRng (b := b1) (off := off1) hb1 (by simp) hcell1
      clear H hcell0 hcell1
      have H := H1
      clear H1
      have hi2 : i < m := by omega
      go_wp2_with (first | ((first | (refine is_load rfl ?_; refine wl_ev rfl (by first | exact c_ld H rfl rfl | exact c_ld0 H rfl rfl | exact c_ldz H rfl rfl | exact c_ldr H rfl rfl) ?_) | (refine is_cmp rfl rfl ?_; first | (refine wl_ev rfl (by first | exact ev_cmpT rfl rfl rfl rfl | exact ev_cmpF rfl rfl rfl rfl) ?_) | (refine wl_cmp rfl rfl rfl rfl rfl (fun h => ?_) (fun h => ?_) <;> (simp only [cmpP] at h))) | (refine is_indexAddr rfl ?_; refine wl_ev rfl (c_ix rfl rfl rfl) ?_)) <;> (simp only [nrm, ↓reduceIte, Nat.reduceAdd]))  )
      (refine wp_plan H (List.Sublist.refl _) 9 (.st 0 (.st 1 (.st 2 (.st 3 (.st 4 (.st 5 (.st 6 (.st 7 (.st 8 .done))))))))) rfl (by kernel_rfl) (by kernel_rfl) (by intro c a d v w h; cases d <;> exact h) (fun w1 H1 => ?_); (clear H; have H := H1; clear H1))
      (refine pl_ev rfl rfl (fun w H => ev_moveT rfl rfl) ?_; (simp only [nrm, ↓reduceIte, Nat.reduceAdd]))
      (refine pl_ev rfl rfl (fun w H => ev_moveT rfl rfl) ?_; (simp only [nrm, ↓reduceIte, Nat.reduceAdd]))
      (refine pl_ev rfl rfl (fun w H => c_ix rfl rfl rfl) ?_; (simp only [nrm, ↓reduceIte, Nat.reduceAdd]))
      (refine pl_ev rfl rfl (fun w H => by first | exact c_ld H rfl rfl | exact c_ld0 H rfl rfl | exact c_ldz H rfl rfl | exact c_ldr H rfl rfl) ?_; (simp only [nrm, ↓reduceIte, Nat.reduceAdd]))
      (refine pl_ev rfl rfl (fun w H => ev_moveT rfl rfl) ?_; (simp only [nrm, ↓reduceIte, Nat.reduceAdd]))
      (refine pl_ev rfl rfl (fun w H => ev_moveT rfl rfl) ?_; (simp only [nrm, ↓reduceIte, Nat.reduceAdd]))
      (refine pl_ev rfl rfl (fun w H => c_ix rfl rfl rfl) ?_; (simp only [nrm, ↓reduceIte, Nat.reduceAdd]))
      (refine pl_ev rfl rfl (fun w H => by first | exact c_ld H rfl rfl | exact c_ld0 H rfl rfl | exact c_ldz H rfl rfl | exact c_ldr H rfl rfl) ?_; (simp only [nrm, ↓reduceIte, Nat.reduceAdd]))
      (refine pl_ev rfl rfl (fun w H => by first | exact ev_cmpT rfl rfl rfl rfl | exact ev_cmpF rfl rfl rfl rfl) ?_; (simp only [nrm, ↓reduceIte, Nat.reduceAdd]))
      (refine pl_done ?_)
      go_wp2_with (first | ((first | (refine is_load rfl ?_; refine wl_ev rfl (by first | exact c_ld H rfl rfl | exact c_ld0 H rfl rfl | exact c_ldz H rfl rfl | exact c_ldr H rfl rfl) ?_) | (refine is_cmp rfl rfl ?_; first | (refine wl_ev rfl (by first | exact ev_cmpT rfl rfl rfl rfl | exact ev_cmpF rfl rfl rfl rfl) ?_) | (refine wl_cmp rfl rfl rfl rfl rfl (fun h => ?_) (fun h => ?_) <;> (simp only [cmpP] at h))) | (refine is_indexAddr rfl ?_; refine wl_ev rfl (c_ix rfl rfl rfl) ?_)) <;> (simp only [nrm, ↓reduceIte, Nat.reduceAdd]))  )
      go_roundw
      case rel => exact ⟨i + 1, by omega, by go_num, H.sub (by repeat first | exact List.Sublist.refl _ | exact List.nil_sublist _ | apply List.Sublist.cons_cons | apply List.Sublist.cons)⟩
      case measure => simp [intOf]; omega
    · go_wp2_with (first | ((first | (refine is_load rfl ?_; refine wl_ev rfl (by first | exact c_ld H rfl rfl | exact c_ld0 H rfl rfl | exact c_ldz H rfl rfl | exact c_ldr H rfl rfl) ?_) | (refine is_cmp rfl rfl ?_; first | (refine wl_ev rfl (by first | exact ev_cmpT rfl rfl rfl rfl | exact ev_cmpF rfl rfl rfl rfl) ?_) | (refine wl_cmp rfl rfl rfl rfl rfl (fun h => ?_) (fun h => ?_) <;> (simp only [cmpP] at h))) | (refine is_indexAddr rfl ?_; refine wl_ev rfl (c_ix rfl rfl rfl) ?_)) <;> (simp only [nrm, ↓reduceIte, Nat.reduceAdd]))  )
      go_ret
      exact ⟨rfl, H.fr⟩
theorem Fr.wide {w w' : World} {A : PA} (h : Fr A.T w w') : Fr A.S w w' := h.mono (fun x hx => .inl (by
  simp only [PA.T, List.mem_cons, List.not_mem_nil, or_false] at hx
  rcases hx with rfl | rfl | rfl | rfl <;> simp [PA.S]))
def aw0 : PS := newS [2, 2, -1] [0, 0, 1] 2
def aw1 : PS := (take aw0 1).2
def aw2 : PS := (take aw1 0).2
def aw3 : PS := (endW aw2 1 3).2
def aw4 : PS := (endW aw3 0 3).2
theorem aw_facts : checkP [2, 2, -1] [0, 0, 1] 2 = 0 ∧ (take aw0 1).1 = (1, 0) ∧ (take aw1 0).1 = (0, 0) ∧ (endW aw2 1 3).1 = (1, 0) ∧ (endW aw3 0 3).1 = (0, 0) ∧ readyW aw4 1 = [2] ∧ leftW aw4 = 1 := by
  refine ⟨by decide, by decide, by decide, by decide, by decide, by decide, by decide⟩
set_option maxHeartbeats 4000000 in
set_option maxRecDepth 100000 in
theorem awake33_any (w : World) : Calls Try.prog 9 #[] w fun e w' => e = .returned (.bool true) ∧ Fr [] w w' := by
  obtain ⟨f0, f1, f2, f3, f4, f5, f6⟩ := aw_facts
  have F0 := hid f0; have F1 := hid f1; have F2 := hid f2; have F3 := hid f3; have F4 := hid f4; have F5 := hid f5; have F6 := hid f6
  clear f0 f1 f2 f3 f4 f5 f6
  have H := Hp.start [] w
  go_enter Try.func9, Try.ntmps9
  go_wp2_with (first | ((first | (refine is_cmp rfl rfl ?_; first | (refine wl_ev rfl (by first | exact ev_cmpT rfl rfl rfl rfl | exact ev_cmpF rfl rfl rfl rfl | exact c_peq rfl rfl | exact c_pne rfl rfl) ?_) | (refine wl_cmp rfl rfl rfl rfl rfl (fun h => ?_) (fun h => ?_) <;> (simp only [cmpP] at h)))     ) <;> (simp only [nrm, ↓reduceIte, Nat.reduceAdd])) | ((first | (refine is_buildSlice rfl ?_; first | (refine wl_rw rfl (fun K hK => c_s1t H rfl rfl rfl (h := (fun g w1 hg hf H1 => hK _ _ ?_)))) | (refine wl_rw rfl (fun K hK => c_s1c H rfl rfl (h := (fun g w1 hg hf H1 => hK _ _ ?_)))))   ); (clear hK K); (clear H; have H := H1; clear H1; (try dsimp only at H); (try clear hf)); (simp only [nrm, ↓reduceIte, Nat.reduceAdd])) | (refine is_buildSlice rfl ?_; refine wl_rw rfl (fun K hK => c_sN H rfl (by repeat first | exact .nil _ | apply Parts.tmp (by rfl) (by rfl) | apply Parts.con (by rfl)) rfl (by intro c hc; simp only [List.mem_cons, List.not_mem_nil, or_false] at hc; (try (rcases hc with rfl | rfl | rfl | rfl | rfl | rfl | rfl | rfl <;> rfl))) (by decide) (by decide) (fun g w1 hg hf H1 => hK _ _ ?_)); (clear hK K); (clear H; have H := H1; clear H1; (try dsimp only at H); (try clear hf)); (simp only [nrm, ↓reduceIte, Nat.reduceAdd])))
  refine Calls.mono (new_any [2, 2, -1] [0, 0, 1] 2 (H.rd (vs := ints [2, 2, -1]) List.prefix_rfl) (by simp) (by decide) (H.rd (vs := ints [0, 0, 1]) List.prefix_rfl) (by simp) (by decide)) ?_
  rintro e w1 ⟨v, rfl, hF, hres⟩
  rw [F0.out] at hres ⊢
  obtain ⟨_, A, rfl, hP, hfresh⟩ := hres.resolve_right (fun h => h.1 rfl)
  have H1 := H.new (w' := w1) A.b hF (show PoolAt A aw0 A.S w1 from hP.o) hfresh
  clear H hF hres hP hfresh
  have H := H1
  clear H1
  go_wp2_with (first | ((first | (refine is_cmp rfl rfl ?_; first | (refine wl_ev rfl (by first | exact ev_cmpT rfl rfl rfl rfl | exact ev_cmpF rfl rfl rfl rfl | exact c_peq rfl rfl | exact c_pne rfl rfl) ?_) | (refine wl_cmp rfl rfl rfl rfl rfl (fun h => ?_) (fun h => ?_) <;> (simp only [cmpP] at h)))     ) <;> (simp only [nrm, ↓reduceIte, Nat.reduceAdd])) | ((first | (refine is_buildSlice rfl ?_; first | (refine wl_rw rfl (fun K hK => c_s1t H rfl rfl rfl (h := (fun g w1 hg hf H1 => hK _ _ ?_)))) | (refine wl_rw rfl (fun K hK => c_s1c H rfl rfl (h := (fun g w1 hg hf H1 => hK _ _ ?_)))))   ); (clear hK K); (clear H; have H := H1; clear H1; (try dsimp only at H); (try clear hf)); (simp only [nrm, ↓reduceIte, Nat.reduceAdd])))
  (refine Calls.mono (take_any (H.pool A.b) 1) ?_; rintro e w1 ⟨rfl, hF, hP⟩; have H1 := H.upd (w' := w1) A.b hF.wide hP.o (fun x hx => .inl hx); clear H hF hP; have H := H1; clear H1)
  rw [F1.out]
  go_wp2_with (first | ((first | (refine is_cmp rfl rfl ?_; first | (refine wl_ev rfl (by first | exact ev_cmpT rfl rfl rfl rfl | exact ev_cmpF rfl rfl rfl rfl | exact c_peq rfl rfl | exact c_pne rfl rfl) ?_) | (refine wl_cmp rfl rfl rfl rfl rfl (fun h => ?_) (fun h => ?_) <;> (simp only [cmpP] at h)))     ) <;> (simp only [nrm, ↓reduceIte, Nat.reduceAdd])) | ((first | (refine is_buildSlice rfl ?_; first | (refine wl_rw rfl (fun K hK => c_s1t H rfl rfl rfl (h := (fun g w1 hg hf H1 => hK _ _ ?_)))) | (refine wl_rw rfl (fun K hK => c_s1c H rfl rfl (h := (fun g w1 hg hf H1 => hK _ _ ?_)))))   ); (clear hK K); (clear H; have H := H1; clear H1; (try dsimp only at H); (try clear hf)); (simp only [nrm, ↓reduceIte, Nat.reduceAdd])))
  (refine Calls.mono (take_any (s := aw1) (H.pool A.b) 0) ?_; rintro e w1 ⟨rfl, hF, hP⟩; have H1 := H.upd (w' := w1) A.b hF.wide hP.o (fun x hx => .inl hx); clear H hF hP; have H := H1; clear H1)
  rw [F2.out]
  go_wp2_with (first | ((first | (refine is_cmp rfl rfl ?_; first | (refine wl_ev rfl (by first | exact ev_cmpT rfl rfl rfl rfl | exact ev_cmpF rfl rfl rfl rfl | exact c_peq rfl rfl | exact c_pne rfl rfl) ?_) | (refine wl_cmp rfl rfl rfl rfl rfl (fun h => ?_) (fun h => ?_) <;> (simp only [cmpP] at h)))     ) <;> (simp only [nrm, ↓reduceIte, Nat.reduceAdd])) | ((first | (refine is_buildSlice rfl ?_; first | (refine wl_rw rfl (fun K hK => c_s1t H rfl rfl rfl (h := (fun g w1 hg hf H1 => hK _ _ ?_)))) | (refine wl_rw rfl (fun K hK => c_s1c H rfl rfl (h := (fun g w1 hg hf H1 => hK _ _ ?_)))))   ); (clear hK K); (clear H; have H := H1; clear H1; (try dsimp only at H); (try clear hf)); (simp only [nrm, ↓reduceIte, Nat.reduceAdd])))
  (refine Calls.mono (finish_any (s := aw2) (H.pool A.b) 1) ?_; rintro e w1 ⟨rfl, hF, hP⟩; have H1 := H.upd (w' := w1) A.b hF.wide hP.o (fun x hx => .inl hx); clear H hF hP; have H := H1; clear H1)
  rw [F3.out]
  go_wp2_with (first | ((first | (refine is_cmp rfl rfl ?_; first | (refine wl_ev rfl (by first | exact ev_cmpT rfl rfl rfl rfl | exact ev_cmpF rfl rfl rfl rfl | exact c_peq rfl rfl | exact c_pne rfl rfl) ?_) | (refine wl_cmp rfl rfl rfl rfl rfl (fun h => ?_) (fun h => ?_) <;> (simp only [cmpP] at h)))     ) <;> (simp only [nrm, ↓reduceIte, Nat.reduceAdd])) | ((first | (refine is_buildSlice rfl ?_; first | (refine wl_rw rfl (fun K hK => c_s1t H rfl rfl rfl (h := (fun g w1 hg hf H1 => hK _ _ ?_)))) | (refine wl_rw rfl (fun K hK => c_s1c H rfl rfl (h := (fun g w1 hg hf H1 => hK _ _ ?_)))))   ); (clear hK K); (clear H; have H := H1; clear H1; (try dsimp only at H); (try clear hf)); (simp only [nrm, ↓reduceIte, Nat.reduceAdd])))
  (refine Calls.mono (finish_any (s := aw3) (H.pool A.b) 0) ?_; rintro e w1 ⟨rfl, hF, hP⟩; have H1 := H.upd (w' := w1) A.b hF.wide hP.o (fun x hx => .inl hx); clear H hF hP; have H := H1; clear H1)
  rw [F4.out]
  go_wp2_with (first | ((first | (refine is_cmp rfl rfl ?_; first | (refine wl_ev rfl (by first | exact ev_cmpT rfl rfl rfl rfl | exact ev_cmpF rfl rfl rfl rfl | exact c_peq rfl rfl | exact c_pne rfl rfl) ?_) | (refine wl_cmp rfl rfl rfl rfl rfl (fun h => ?_) (fun h => ?_) <;> (simp only [cmpP] at h)))     ) <;> (simp only [nrm, ↓reduceIte, Nat.reduceAdd])) | ((first | (refine is_buildSlice rfl ?_; first | (refine wl_rw rfl (fun K hK => c_s1t H rfl rfl rfl (h := (fun g w1 hg hf H1 => hK _ _ ?_)))) | (refine wl_rw rfl (fun K hK => c_s1c H rfl rfl (h := (fun g w1 hg hf H1 => hK _ _ ?_)))))   ); (clear hK K); (clear H; have H := H1; clear H1; (try dsimp only at H); (try clear hf)); (simp only [nrm, ↓reduceIte, Nat.reduceAdd])))
  refine Calls.mono (readyOf_any (s := aw4) (H.pool A.b) 1) ?_
  rintro e w1 ⟨v, rfl, hF, hown⟩
  rw [F5.out] at hown
  obtain ⟨g, cap, pad, rfl, hn2, hc2, hl2, hg2, H1⟩ := H.row hF hown (by decide)
  clear H hF hown
  have H := H1
  clear H1
  go_wp2_with (first | ((first | (refine is_cmp rfl rfl ?_; first | (refine wl_ev rfl (by first | exact ev_cmpT rfl rfl rfl rfl | exact ev_cmpF rfl rfl rfl rfl | exact c_peq rfl rfl | exact c_pne rfl rfl) ?_) | (refine wl_cmp rfl rfl rfl rfl rfl (fun h => ?_) (fun h => ?_) <;> (simp only [cmpP] at h)))     ) <;> (simp only [nrm, ↓reduceIte, Nat.reduceAdd])) | ((first | (refine is_buildSlice rfl ?_; first | (refine wl_rw rfl (fun K hK => c_s1t H rfl rfl rfl (h := (fun g w1 hg hf H1 => hK _ _ ?_)))) | (refine wl_rw rfl (fun K hK => c_s1c H rfl rfl (h := (fun g w1 hg hf H1 => hK _ _ ?_)))))   ); (clear hK K); (clear H; have H := H1; clear H1; (try dsimp only at H); (try clear hf)); (simp only [nrm, ↓reduceIte, Nat.reduceAdd])) | (refine is_buildSlice rfl ?_; refine wl_rw rfl (fun K hK => c_sN H rfl (by repeat first | exact .nil _ | apply Parts.tmp (by rfl) (by rfl) | apply Parts.con (by rfl)) rfl (by intro c hc; simp only [List.mem_cons, List.not_mem_nil, or_false] at hc; (try (rcases hc with rfl | rfl | rfl | rfl | rfl | rfl | rfl | rfl <;> rfl))) (by decide) (by decide) (fun g w1 hg hf H1 => hK _ _ ?_)); (clear hK K); (clear H; have H := H1; clear H1; (try dsimp only at H); (try clear hf)); (simp only [nrm, ↓reduceIte, Nat.reduceAdd])))
  (refine Calls.mono (ints_same [2] rfl rfl (by decide) (H.rd (vs := ints [2]) (List.prefix_append _ _)) (H.rd (vs := ints [2]) List.prefix_rfl)) ?_; rintro e w1 ⟨rfl, hF⟩; have H1 := H.step hF (by simp); clear H; have H := H1; clear H1)
  go_wp2_with (first | ((first | (refine is_cmp rfl rfl ?_; first | (refine wl_ev rfl (by first | exact ev_cmpT rfl rfl rfl rfl | exact ev_cmpF rfl rfl rfl rfl | exact c_peq rfl rfl | exact c_pne rfl rfl) ?_) | (refine wl_cmp rfl rfl rfl rfl rfl (fun h => ?_) (fun h => ?_) <;> (simp only [cmpP] at h)))     ) <;> (simp only [nrm, ↓reduceIte, Nat.reduceAdd])) | ((first | (refine is_buildSlice rfl ?_; first | (refine wl_rw rfl (fun K hK => c_s1t H rfl rfl rfl (h := (fun g w1 hg hf H1 => hK _ _ ?_)))) | (refine wl_rw rfl (fun K hK => c_s1c H rfl rfl (h := (fun g w1 hg hf H1 => hK _ _ ?_)))))   ); (clear hK K); (clear H; have H := H1; clear H1; (try dsimp only at H); (try clear hf)); (simp only [nrm, ↓reduceIte, Nat.reduceAdd])))
  (refine Calls.mono (left_any (s := aw4) (H.pool A.b)) ?_; rintro e w1 ⟨rfl, hF⟩; have H1 := H.step hF (by simp); clear H; have H := H1; clear H1)
  rw [F6.out]
  go_wp2_with (first | ((first | (refine is_cmp rfl rfl ?_; first | (refine wl_ev rfl (by first | exact ev_cmpT rfl rfl rfl rfl | exact ev_cmpF rfl rfl rfl rfl | exact c_peq rfl rfl | exact c_pne rfl rfl) ?_) | (refine wl_cmp rfl rfl rfl rfl rfl (fun h => ?_) (fun h => ?_) <;> (simp only [cmpP] at h)))     ) <;> (simp only [nrm, ↓reduceIte, Nat.reduceAdd])) | ((first | (refine is_buildSlice rfl ?_; first | (refine wl_rw rfl (fun K hK => c_s1t H rfl rfl rfl (h := (fun g w1 hg hf H1 => hK _ _ ?_)))) | (refine wl_rw rfl (fun K hK => c_s1c H rfl rfl (h := (fun g w1 hg hf H1 => hK _ _ ?_)))))   ); (clear hK K); (clear H; have H := H1; clear H1; (try dsimp only at H); (try clear hf)); (simp only [nrm, ↓reduceIte, Nat.reduceAdd])))
  go_ret
  exact ⟨rfl, H.fr⟩
end Go.Proofs.Ythlhjjokodmihaa
