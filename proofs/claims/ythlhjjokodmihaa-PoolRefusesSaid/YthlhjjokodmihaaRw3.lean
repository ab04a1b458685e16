/-
  The document's pool: New.
-/
import Derived.Test.YthlhjjokodmihaaRq3
namespace Go.Proofs.Ythlhjjokodmihaa
open Go.RowKit
set_option linter.unusedSimpArgs false
set_option linter.unusedVariables false
theorem resume33_anyN {w : World} {p q r u : Option Addr} {c d e f n m : Nat} (par own : List Int) (k : Int) (fin bro : List Bool) (hfl : fin.length = n) (hbl : bro.length = m) (hp : Rd w (.slice p par.length c) par.length (ints par)) (hq : Rd w (.slice q own.length d) own.length (ints own)) (hol : own.length ≤ 1000000)
    (hr : Rd w (.slice r n e) n (boolsV fin)) (hfl2 : n ≤ 1000000) (hu : Rd w (.slice u m f) m (boolsV bro)) (hbl2 : m ≤ 1000000) :
    Calls Try.prog 24 #[.slice p par.length c, .slice q own.length d, .int .i64 k, .slice r n e, .slice u m f] w fun e w' => ∃ v, e = .returned (.tuple #[v, .int .i64 (resumeD par own k fin bro)]) ∧ Fr [] w w' ∧ (resumeD par own k fin bro = 0 ∧ (∃ D : DA, v = .pointer (some ⟨D.b, 0, none⟩) ∧ DIn D (resumeS par own k fin bro) w' ∧ ∀ x ∈ D.S, w.heap.size ≤ x) ∨ resumeD par own k fin bro ≠ 0) := by
  subst hfl hbl
  exact resume33_any par own k fin bro hp hq hol hr hfl2 hu hbl2
set_option maxHeartbeats 4000000 in
set_option maxRecDepth 100000 in
theorem new33_any {w : World} {p q : Option Addr} {c d n : Nat} (par own : List Int) (k : Int) (hn : own.length = n) (hp : Rd w (.slice p par.length c) par.length (ints par)) (hpl : par.length ≤ 1000000) (hq : Rd w (.slice q n d) n (ints own)) (hol : n ≤ 1000000) :
    Calls Try.prog 11 #[.slice p par.length c, .slice q n d, .int .i64 k] w fun e w' => ∃ v, e = .returned (.tuple #[v, .int .i64 (checkP par own k)]) ∧ Fr [] w w' ∧
      (checkP par own k = 0 ∧ (∃ D : DA, v = .pointer (some ⟨D.b, 0, none⟩) ∧ DIn D (newS par own k) w' ∧ ∀ x ∈ D.S, w.heap.size ≤ x) ∨ checkP par own k ≠ 0) := by
  subst hn
  have Hp0 := hid hp
  have Hq0 := hid hq
  clear hp hq
  have H := Hp.start [] w
  have hone : ∀ w1 w2, Fr [] w w1 → Fr [] w1 w2 → ∀ v : Value, (resumeD par own k (List.replicate par.length false) (List.replicate par.length false) = 0 ∧ (∃ A : DA, v = .pointer (some ⟨A.b, 0, none⟩) ∧ DIn A (resumeS par own k (List.replicate par.length false) (List.replicate par.length false)) w2 ∧ ∀ x ∈ A.S, w1.heap.size ≤ x) ∨ resumeD par own k (List.replicate par.length false) (List.replicate par.length false) ≠ 0) → (checkP par own k = 0 ∧ (∃ A : DA, v = .pointer (some ⟨A.b, 0, none⟩) ∧ DIn A (newS par own k) w2 ∧ ∀ x ∈ A.S, w.heap.size ≤ x) ∨ checkP par own k ≠ 0) := by
    intro w1 w2 h1 h2 v h
    rw [resumeD_E, new_err] at h
    rcases h with ⟨h3, A, h4, h5, h6⟩ | h
    · exact .inl ⟨h3, A, h4, h5, fun x hx => Nat.le_trans h1.size (h6 x hx)⟩
    · exact .inr h
  have Hone := hid hone
  clear hone
  go_enter Try.func11, Try.ntmps11
  go_wp2_with (first | ((first | (refine is_make rfl ?_; refine wl_rw rfl (fun K hK => c_mk H rfl rfl rfl (h := (fun g w1 hg hf H1 => hK _ _ ?_))))    ); (clear hK K); (clear H; have H := H1; clear H1; (try dsimp only at H); (try clear hf)); (simp only [nrm, ↓reduceIte, Nat.reduceAdd])))
  (refine wp_plan H (List.Sublist.refl _) 14 (.st 0 (.st 1 (.st 2 (.st 3 (.st 4 (.st 6 (.st 7 (.ld2 5 (.ld 8 (.ld 9 (.st 10 (.st 11 (.st 12 (.st 13 .done)))))) 8 (.ld 5 (.ld 9 (.st 10 (.st 11 (.st 12 (.st 13 .done)))))))))))))) rfl (by kernel_rfl) (by kernel_rfl) (by intro c a d v w h; cases d <;> exact h) (fun w1 H1 => ?_); (clear H; have H := H1; clear H1))
  (refine pl_ev rfl rfl (fun w H => ev_moveT rfl rfl) ?_; (simp only [nrm, ↓reduceIte, Nat.reduceAdd]))
  (refine pl_ev rfl rfl (fun w H => ev_moveT rfl rfl) ?_; (simp only [nrm, ↓reduceIte, Nat.reduceAdd]))
  (refine pl_ev rfl rfl (fun w H => ev_moveT rfl rfl) ?_; (simp only [nrm, ↓reduceIte, Nat.reduceAdd]))
  (refine pl_ev rfl rfl (fun w H => ev_moveT rfl rfl) ?_; (simp only [nrm, ↓reduceIte, Nat.reduceAdd]))
  (refine pl_ev rfl rfl (fun w H => by first | exact c_len rfl rfl | exact ev_strLen rfl rfl) ?_; (simp only [nrm, ↓reduceIte, Nat.reduceAdd]))
  (refine pl_ev rfl rfl (fun w H => ev_moveT rfl rfl) ?_; (simp only [nrm, ↓reduceIte, Nat.reduceAdd]))
  (refine pl_ev rfl rfl (fun w H => by first | exact c_len rfl rfl | exact ev_strLen rfl rfl) ?_; (simp only [nrm, ↓reduceIte, Nat.reduceAdd]))
  (refine pl_ld2 ?_ ?_)
  (refine pl_rw rfl rfl (fun K hK => c_mk H rfl rfl rfl (h := fun g5 w1 hg hf H1 => hK _ _ (fun hne => by first | exact absurd rfl hne | exact trivial | exact H1.sub (by repeat first | exact List.Sublist.refl _ | exact List.nil_sublist _ | apply List.Sublist.cons_cons | apply List.Sublist.cons)) ?_)); (clear hK K); (clear H; have H := H1; clear H1; (try dsimp only at H); (try clear hf)); (simp only [nrm, ↓reduceIte, Nat.reduceAdd]))
  (refine pl_rw rfl rfl (fun K hK => c_mk H rfl rfl rfl (h := fun g8 w1 hg hf H1 => hK _ _ (fun hne => by first | exact absurd rfl hne | exact trivial | exact H1.sub (by repeat first | exact List.Sublist.refl _ | exact List.nil_sublist _ | apply List.Sublist.cons_cons | apply List.Sublist.cons)) ?_)); (clear hK K); (clear H; have H := H1; clear H1; (try dsimp only at H); (try clear hf)); (simp only [nrm, ↓reduceIte, Nat.reduceAdd]))
  ((refine pl_rw rfl rfl (fun K hK => rw_call rfl Try.func24 (by kernel_rfl) rfl (resume33_anyN (n := par.length) (m := par.length) par own k (List.replicate par.length false) (List.replicate par.length false) List.length_replicate List.length_replicate (Hp0.out.fr H.fr (by simp)) (Hq0.out.fr H.fr (by simp)) hol (by have h := H.rd (b := g5) (off := 0) (n := par.length) (c := par.length) (vs := (List.replicate par.length [Value.bool false]).flatten) List.prefix_rfl; rw [zeros_bools] at h; exact h) hpl (by have h := H.rd (b := g8) (off := 0) (n := par.length) (c := par.length) (vs := (List.replicate par.length [Value.bool false]).flatten) List.prefix_rfl; rw [zeros_bools] at h; exact h) hpl) (fun e w1 hpost => ?_))); obtain ⟨v, rfl, hF, hres⟩ := hpost; refine ⟨_, rfl, ?_⟩; have hres := Hone.out _ _ H.fr hF _ hres; rw [resumeD_E, new_err]; have H1 := H.step hF (by simp); refine hK _ _ (fun hne => by first | exact absurd rfl hne | exact H1.sub (by repeat first | exact List.Sublist.refl _ | exact List.nil_sublist _ | apply List.Sublist.cons_cons | apply List.Sublist.cons)) ?_; clear hK K; (clear H; have H := H1; clear H1); have hres := hid hres; (simp only [nrm, ↓reduceIte, Nat.reduceAdd]))
  (refine pl_ev rfl rfl (fun w H => ev_extract rfl rfl rfl) ?_; (simp only [nrm, ↓reduceIte, Nat.reduceAdd]))
  (refine pl_ev rfl rfl (fun w H => ev_extract rfl rfl rfl) ?_; (simp only [nrm, ↓reduceIte, Nat.reduceAdd]))
  (refine pl_ev rfl rfl (fun w H => ev_assignT rfl rfl) ?_; (simp only [nrm, ↓reduceIte, Nat.reduceAdd]))
  (refine pl_ev rfl rfl (fun w H => ev_assignT rfl rfl) ?_; (simp only [nrm, ↓reduceIte, Nat.reduceAdd]))
  (refine pl_done ?_)
  rotate_left
  (refine pl_rw rfl rfl (fun K hK => c_mk H rfl rfl rfl (h := fun g8 w1 hg hf H1 => hK _ _ (fun hne => by first | exact absurd rfl hne | exact trivial | exact H1.sub (by repeat first | exact List.Sublist.refl _ | exact List.nil_sublist _ | apply List.Sublist.cons_cons | apply List.Sublist.cons)) ?_)); (clear hK K); (clear H; have H := H1; clear H1; (try dsimp only at H); (try clear hf)); (simp only [nrm, ↓reduceIte, Nat.reduceAdd]))
  (refine pl_rw rfl rfl (fun K hK => c_mk H rfl rfl rfl (h := fun g5 w1 hg hf H1 => hK _ _ (fun hne => by first | exact absurd rfl hne | exact trivial | exact H1.sub (by repeat first | exact List.Sublist.refl _ | exact List.nil_sublist _ | apply List.Sublist.cons_cons | apply List.Sublist.cons)) ?_)); (clear hK K); (clear H; have H := H1; clear H1; (try dsimp only at H); (try clear hf)); (simp only [nrm, ↓reduceIte, Nat.reduceAdd]))
  ((refine pl_rw rfl rfl (fun K hK => rw_call rfl Try.func24 (by kernel_rfl) rfl (resume33_anyN (n := par.length) (m := par.length) par own k (List.replicate par.length false) (List.replicate par.length false) List.length_replicate List.length_replicate (Hp0.out.fr H.fr (by simp)) (Hq0.out.fr H.fr (by simp)) hol (by have h := H.rd (b := g5) (off := 0) (n := par.length) (c := par.length) (vs := (List.replicate par.length [Value.bool false]).flatten) List.prefix_rfl; rw [zeros_bools] at h; exact h) hpl (by have h := H.rd (b := g8) (off := 0) (n := par.length) (c := par.length) (vs := (List.replicate par.length [Value.bool false]).flatten) List.prefix_rfl; rw [zeros_bools] at h; exact h) hpl) (fun e w1 hpost => ?_))); obtain ⟨v, rfl, hF, hres⟩ := hpost; refine ⟨_, rfl, ?_⟩; have hres := Hone.out _ _ H.fr hF _ hres; rw [resumeD_E, new_err]; have H1 := H.step hF (by simp); refine hK _ _ (fun hne => by first | exact absurd rfl hne | exact H1.sub (by repeat first | exact List.Sublist.refl _ | exact List.nil_sublist _ | apply List.Sublist.cons_cons | apply List.Sublist.cons)) ?_; clear hK K; (clear H; have H := H1; clear H1); have hres := hid hres; (simp only [nrm, ↓reduceIte, Nat.reduceAdd]))
  (refine pl_ev rfl rfl (fun w H => ev_extract rfl rfl rfl) ?_; (simp only [nrm, ↓reduceIte, Nat.reduceAdd]))
  (refine pl_ev rfl rfl (fun w H => ev_extract rfl rfl rfl) ?_; (simp only [nrm, ↓reduceIte, Nat.reduceAdd]))
  (refine pl_ev rfl rfl (fun w H => ev_assignT rfl rfl) ?_; (simp only [nrm, ↓reduceIte, Nat.reduceAdd]))
  (refine pl_ev rfl rfl (fun w H => ev_assignT rfl rfl) ?_; (simp only [nrm, ↓reduceIte, Nat.reduceAdd]))
  (refine pl_done ?_)
  rotate_left
  all_goals
    go_wp2_with (first | ((first | (refine is_make rfl ?_; refine wl_rw rfl (fun K hK => c_mk H rfl rfl rfl (h := (fun g w1 hg hf H1 => hK _ _ ?_))))    ); (clear hK K); (clear H; have H := H1; clear H1; (try dsimp only at H); (try clear hf)); (simp only [nrm, ↓reduceIte, Nat.reduceAdd])))
    go_ret2
    exact ⟨v, rfl, H.fr, hres.out⟩
end Go.Proofs.Ythlhjjokodmihaa
