/-
  The integers: numbers of a sign and a magnitude.
-/
import Derived.Test.YtpmebjhlgdhchaaDoorIw4
namespace Go.Proofs.YtpmebjhlgdhchaaDoor
open Go.RowKit
set_option linter.unusedSimpArgs false
set_option linter.unusedVariables false
set_option maxHeartbeats 4000000
set_option maxRecDepth 100000
theorem LR.empty {w w' : World} {p : Option Addr} {c : Nat} (h : LR w p c []) : LR w' p c [] := ⟨h.nil, h.cap, h.max, h.lim, .inl ⟨rfl, rfl, p, c, rfl⟩⟩
/-- A store into a block that holds no limbs. -/
theorem LR.keep {w w' : World} {p : Option Addr} {c : Nat} {l : List Nat} (h : LR w p c l) {g : Nat} {cs : List Value} {t : TypeId} (hg : w.heap[g]? = some (.cells cs.toArray t (0, 0))) (hc : ∀ u ∈ cs, ∀ x, u ≠ .int .u32 x) (k : Fr [g] w w') : LR w' p c l := by
  cases l with
  | nil => exact h.empty
  | cons x l =>
    obtain ⟨b, off, rfl, hb, hcell⟩ := h.rd.rng (by simp [limbs])
    have hbg : b ≠ g := fun e => by
      subst e
      have h0 := hcell 0 (.int .u32 (x : Int)) (by simp [limbs])
      rw [cell_of_row w b _ _ _ _ hg] at h0
      have h1 : cs[off + 0]? = some (.int .u32 (x : Int)) := by simpa using h0
      exact hc _ (List.mem_of_getElem? h1) _ rfl
    refine ⟨h.nil, h.cap, h.max, h.lim, h.rd.fr k (fun b' hb' => ?_)⟩
    have e : b' = b := by
      simp [Value.ownBlock] at hb'
      omega
    subst e
    simpa using hbg
section
variable {P : Program} {Q : Exit → Act → World → Prop} {a : Act} {w w0 : World} {o : Oper} {K : Act → World → Prop} {T : List Nat} {l : List Ent}
/-- A number is stored whole. -/
theorem c_st2 (H : Hp T w0 w l) {t : TypeId} {x y : Operand} (ho : o.op = .store t x y) {b : Nat} {u v : Value} (hx : a.eval x = .pointer (some ⟨b, 0, none⟩)) (hy : a.eval y = .agg #[u, v]) [hs : Ro P t 2] {r s : Value} {t' : TypeId} {f : Nat → List Value → List Ent} [hm : In b [r, s] t' l f] (h1 : u.oneCell' = true := by rfl) (h2 : v.oneCell' = true := by rfl) (h3 : ∀ x, r ≠ .int .u32 x := by intro x h; cases h) (h4 : ∀ x, s ≠ .int .u32 x := by intro x h; cases h)
    (h : ∀ w', Fr [b] w w' → Hp T w0 w' (f b [u, v]) → (∀ p c l, LR w p c l → LR w' p c l) → K (a.put o.dst undef) w') : o.wp P a w K Q :=
  c_stn H ho hx (vs := [u, v]) hy rfl (by intro z hz; simp only [List.mem_cons, List.not_mem_nil, or_false] at hz; rcases hz with rfl | rfl <;> assumption) (by simp) (fun w' hf H1 => h w' hf H1 (fun p c l hL => hL.keep (H.at b) (by intro z hz x; simp only [List.mem_cons, List.not_mem_nil, or_false] at hz; rcases hz with rfl | rfl; exact h3 x; exact h4 x) hf))
theorem x_s2 {P : Program} {ops : Array Oper} {Q : Exit → Act → World → Prop} {w w0 : World} {rest : List Oper} {o : Oper} {T : List Nat} {l : List Ent} {L : List Value} {ds : List Deferred} {b : Nat} {l' : List Ent} {L' : List Value}
    (h : ∀ w', Fr [b] w w' → Hp T w0 w' l' → (∀ p c l, LR w p c l → LR w' p c l) → wpList P ops Q rest ⟨L'.toArray, ds⟩ w')
    (hw : Region.wanted o (yielded ops L.toArray) = true := by rfl)
    (he : Hp T w0 w l → ∀ K : Act → World → Prop, (∀ w', Fr [b] w w' → Hp T w0 w' l' → (∀ p c l, LR w p c l → LR w' p c l) → K (Act.put ⟨L.toArray, ds⟩ o.dst undef) w') → o.wp P ⟨L.toArray, ds⟩ w K Q := by intro H K hK; exact c_st2 H rfl rfl rfl (h := hK))
    (hs : putL L o.dst undef = L' := by ((try simp only [nrm, putL_s, putL_n, ↓reduceIte, Nat.reduceAdd]); (try exact rfl))) (H : Hp T w0 w l) : wpList P ops Q (o :: rest) ⟨L.toArray, ds⟩ w :=
  wl_rw hw fun K hK => he H K fun w' h2 h3 h4 => hK _ _ (by rw [put_eq, hs]; exact h w' h2 h3 h4)
theorem p_s2 {P : Program} {lo : List Oper} {S : World → Prop} {f i : Nat} {k : Plan} {Q : Exit → Act → World → Prop} {w w0 : World} {o : Oper} {T : List Nat} {l : List Ent} {L : List Value} {ds : List Deferred} {b : Nat} {l' : List Ent} {L' : List Value}
    (h : ∀ w', Fr [b] w w' → Hp T w0 w' l' → (∀ p c l, LR w p c l → LR w' p c l) → k.wp P lo.toArray Q S f ⟨L'.toArray, ds⟩ w') (hi : lo[i]? = some o := by rfl)
    (hw : Region.wanted o (yielded lo.toArray L.toArray) = true := by rfl)
    (he : Hp T w0 w l → ∀ K : Act → World → Prop, (∀ w', Fr [b] w w' → Hp T w0 w' l' → (∀ p c l, LR w p c l → LR w' p c l) → K (Act.put ⟨L.toArray, ds⟩ o.dst undef) w') → o.wp P ⟨L.toArray, ds⟩ w K Q := by intro H K hK; exact c_st2 H rfl rfl rfl (h := hK))
    (hs : putL L o.dst undef = L' := by ((try simp only [nrm, putL_s, putL_n, ↓reduceIte, Nat.reduceAdd]); (try exact rfl)))
    (hS : i ≠ f → ∀ w', Hp T w0 w' l' → S w' := by intro hne w' H1; first | exact absurd rfl hne | exact trivial | exact H1.sub (by repeat first | exact List.Sublist.refl _ | exact List.nil_sublist _ | apply List.Sublist.cons_cons | apply List.Sublist.cons))
    (H : Hp T w0 w l) : Plan.wp P lo.toArray Q S f (.ld i k) ⟨L.toArray, ds⟩ w :=
  pl_rw hi hw fun K hK => he H K fun w' h2 h3 h4 => hK _ _ (fun hne => hS hne w' h3) (by rw [put_eq, hs]; exact h w' h2 h3 h4)
end
theorem zv_neg_iff (neg : Bool) (l : List Nat) : zv neg l < 0 ↔ neg = true ∧ val l ≠ 0 := by
  unfold zv; cases neg <;> simp <;> omega
theorem LR.zero (w : World) : LR w none 0 [] := ⟨fun _ => rfl, Nat.zero_le _, by unfold maxLen; omega, Lim.nil, .inl ⟨rfl, rfl, _, _, rfl⟩⟩
theorem big_any {w : World} {p : Option Addr} {n c : Nat} (neg : Bool) (l : List Nat) (hl : l.length = n) (h : LR w p c l) :
    Calls Tryd.prog 53 #[.bool neg, .slice p n c] w fun e w' => Big e w w' (zv neg l) := by
  have Hh := hid h
  obtain ⟨hlc, hc⟩ := h.clen
  have H := Hp.start [] w
  have Hl := hid hl
  clear h hl
  go_enter Tryd.func53, Tryd.ntmps53
  go_wp2_with (first | refine x_q H ?_ | refine x_cm (fun h => ?_) (fun h => ?_) | (revert H; first | (refine x_g ?_; intro g w1 hg hf H) | (refine x_s ?_; intro w1 hf H); (try clear hf)))
  refine Calls.mono (trim_any l Hl.out (Hh.out.fr H.fr)) ?_
  rintro e w1 ⟨rfl, hF⟩
  have H1 := H.step hF (by simp)
  clear H hF
  have H := H1
  clear H1
  have hml : (digs (val l)).length ≤ l.length := digs_len_le Hh.out.lim
  by_cases h0 : val l = 0
  · have e0 : (digs (val l)).length = 0 := by rw [h0, digs_zero]; rfl
    have Hz : Hid (zv neg l = 0) := hid (by unfold zv; rw [h0]; split <;> rfl)
    rw [e0]
    clear e0 h0 hml
    go_wp2_with (first | refine x_q H ?_ | refine x_cm (fun h => ?_) (fun h => ?_) | (revert H; refine x_s2 ?_; intro w1 hf H hk; have hk2 := hid hk; clear hk; (try clear hf)) | (revert H; first | (refine x_g ?_; intro g w1 hg hf H) | (refine x_s ?_; intro w1 hf H); (try clear hf)))
    refine c_post H rfl rfl rfl ?_
    refine ⟨none, 0, ?_, H.fr, ?_⟩
    · rw [Hz.out, show (0 : Int).natAbs = 0 from rfl, digs_zero]; rfl
    · rw [Hz.out, show (0 : Int).natAbs = 0 from rfl, digs_zero]; exact LR.zero _
  · have Hn0 := hid h0
    have hp : 0 < (digs (val l)).length := by
      rcases Nat.eq_zero_or_pos (digs (val l)).length with e | e
      · exact absurd (digs_nil.1 (List.eq_nil_of_length_eq_zero e)) h0
      · exact e
    obtain ⟨m, hm⟩ : ∃ m, (digs (val l)).length = m := ⟨_, rfl⟩
    have Hm := hid hm
    rw [hm] at hp hml ⊢
    clear hm h0
    go_wp2_with (first | refine x_q H ?_ | refine x_cm (fun h => ?_) (fun h => ?_) | (revert H; refine x_s2 ?_; intro w1 hf H hk; have hk2 := hid hk; clear hk; (try clear hf)) | (revert H; first | (refine x_g ?_; intro g w1 hg hf H) | (refine x_s ?_; intro w1 hf H); (try clear hf)))
    refine c_post H rfl rfl rfl ?_
    refine ⟨p, c, ?_, H.fr, ?_⟩
    · rw [zv_abs, Hm.out]
      have : decide (zv neg l < 0) = neg := by
        rw [Bool.eq_iff_iff, decide_eq_true_eq, zv_neg_iff]
        exact ⟨fun h => h.1, fun h => ⟨h, Hn0.out⟩⟩
      rw [this]
    · rw [zv_abs]
      exact Hh.out.trim.fr H.fr
end Go.Proofs.YtpmebjhlgdhchaaDoor
/-
  The integers: copies, Norm, Neg, Abs, and the document's.
-/
namespace Go.Proofs.YtpmebjhlgdhchaaDoor
open Go.RowKit
set_option linter.unusedSimpArgs false
set_option linter.unusedVariables false
set_option maxHeartbeats 4000000
set_option maxRecDepth 100000
theorem LR.of_owns {w : World} {base : Nat} {e : TypeId} {v : Value} {n : Nat} {l : List Nat} (h : w.ownsRow base e 1 v n (limbs l)) (lm : Lim l) : ∃ p c, v = .slice p l.length c ∧ l.length = n ∧ LR w p c l := by
  obtain ⟨S, h1, _⟩ := RowAt.of_owns h
  exact LR.of_row h1 lm
theorem clone_any {w : World} {p : Option Addr} {n c : Nat} (l : List Nat) (hl : l.length = n) (hn : n ≤ 1000000) (h : LR w p c l) :
    Calls Tryd.prog 55 #[.slice p n c] w fun e w' => ∃ p' c', e = .returned (.slice p' n c') ∧ Fr [] w w' ∧ LR w' p' c' l := by
  subst hl
  have Hh := hid h
  have H := (Hp.start [] w).newRow 0 (e := 54) (sz := 1)
  cases p with
  | none =>
    have h0 : l = [] := by
      rcases h.rd with ⟨h, _⟩ | ⟨ad, c', h, _⟩
      · exact List.eq_nil_of_length_eq_zero h
      · cases h
    subst h0
    obtain rfl := h.nil rfl
    clear h Hh
    go_enter Tryd.func55, Tryd.ntmps55
    go_wp2_with (first | refine x_q H ?_ | refine x_cm (fun h => ?_) (fun h => ?_) | (revert H; first | (refine x_g ?_; intro g w1 hg hf H) | (refine x_s ?_; intro w1 hf H); (try clear hf)))
    go_ret
    exact ⟨none, 0, rfl, H.fr, LR.zero _⟩
  | some ad =>
    clear h
    by_cases h0 : l.length < 1
    · have h1 : l = [] := List.eq_nil_of_length_eq_zero (by omega)
      subst h1
      go_enter Tryd.func55, Tryd.ntmps55
      go_wp2_with (first | refine x_q H ?_ | refine x_cm (fun h => ?_) (fun h => ?_) | (refine is_buildSlice rfl ?_; refine wl_rw rfl (fun K hK => c_sN H rfl (by repeat first | exact .nil _ | apply Parts.tmp (by rfl) (by rfl) | apply Parts.con (by rfl)) rfl (by intro c hc; simp only [List.mem_cons, List.not_mem_nil, or_false] at hc; (try (rcases hc with rfl | rfl | rfl | rfl | rfl | rfl | rfl | rfl <;> rfl))) (by decide) (by decide) (fun g w1 hg hf H1 => hK _ _ ?_)); (clear hK K); (clear H; have H := H1; clear H1; (try dsimp only at H); (try clear hf)); (simp only [nrm, ↓reduceIte, Nat.reduceAdd])) | (refine is_blt (b := .append) rfl ?_; refine wl_rw rfl (fun K hK => c_apz H rfl rfl rfl (by omega) (fun w1 hf H1 => hK _ _ ?_)); (clear hK K); (clear H; have H := H1; clear H1; (try dsimp only at H); (try clear hf)); (simp only [nrm, ↓reduceIte, Nat.reduceAdd])) | (revert H; first | (refine x_g ?_; intro g w1 hg hf H) | (refine x_s ?_; intro w1 hf H); (try clear hf)))
      go_ret
      exact ⟨_, _, rfl, H.fr, ⟨fun h => (by cases h), Nat.zero_le _, by unfold maxLen; omega, Lim.nil, .inl ⟨rfl, rfl, _, _, rfl⟩⟩⟩
    · go_enter Tryd.func55, Tryd.ntmps55
      go_wp2_with (first | refine x_q H ?_ | refine x_cm (fun h => ?_) (fun h => ?_) | (refine is_buildSlice rfl ?_; refine wl_rw rfl (fun K hK => c_sN H rfl (by repeat first | exact .nil _ | apply Parts.tmp (by rfl) (by rfl) | apply Parts.con (by rfl)) rfl (by intro c hc; simp only [List.mem_cons, List.not_mem_nil, or_false] at hc; (try (rcases hc with rfl | rfl | rfl | rfl | rfl | rfl | rfl | rfl <;> rfl))) (by decide) (by decide) (fun g w1 hg hf H1 => hK _ _ ?_)); (clear hK K); (clear H; have H := H1; clear H1; (try dsimp only at H); (try clear hf)); (simp only [nrm, ↓reduceIte, Nat.reduceAdd])) | (refine is_blt (b := .append) rfl ?_; go_loud (refine wl_rw rfl (fun K hK => c_apo H rfl rfl rfl List.prefix_rfl rfl rfl (Nat.zero_le _) (Hh.out.rd.fr H.fr (by simp)) (by rw [limbs_len, Nat.mul_one]) (limbs_one _) (by omega) (by omega) (by first | omega | (unfold maxLen; omega)) (fun g w1 cap pad hg hc hcm hpl hf H1 => hK _ _ ?_))); (clear hK K); (clear H; have H := H1; clear H1; (try dsimp only at H); (try clear hf)); (simp only [nrm, ↓reduceIte, Nat.reduceAdd])) | (revert H; first | (refine x_g ?_; intro g w1 hg hf H) | (refine x_s ?_; intro w1 hf H); (try clear hf)))
      go_ret
      exact ⟨_, _, by simp; rfl, H.fr, LR.of_blk (by simpa using H.at g) Hh.out.lim (by omega) hcm⟩
theorem make1_any {w : World} {p : Option Addr} {n c : Nat} (neg : Bool) (l : List Nat) (hl : l.length = n) (hn : n ≤ 1000000) (h : LR w p c l) :
    Calls Tryd.prog 57 #[.bool neg, .slice p n c] w fun e w' => Big e w w' (zv neg l) := by
  have Hh := hid h
  obtain ⟨hlc, hc⟩ := h.clen
  have H := Hp.start [] w
  have Hl := hid hl
  clear h hl
  go_enter Tryd.func57, Tryd.ntmps57
  go_wp2_with (first | refine x_q H ?_ | refine x_cm (fun h => ?_) (fun h => ?_) | (revert H; first | (refine x_g ?_; intro g w1 hg hf H) | (refine x_s ?_; intro w1 hf H); (try clear hf)))
  refine Calls.mono (rtrim_any l Hl.out hn (Hh.out.fr H.fr)) ?_
  rintro e w1 ⟨p', c', rfl, hF, hL⟩
  have HL := hid hL
  have H1 := H.step hF (by simp)
  clear H hF hL
  have H := H1
  clear H1
  obtain ⟨m, hm⟩ : ∃ m, (digs (val l)).length = m := ⟨_, rfl⟩
  have hml : m ≤ l.length := by rw [← hm]; exact digs_len_le Hh.out.lim
  have Hm := hid hm
  rw [hm]
  clear hm
  have HB : Hid (decide (zv neg l < 0) = (neg && decide (0 < m))) := hid (by
    rw [Bool.eq_iff_iff, decide_eq_true_eq, zv_neg_iff, Bool.and_eq_true, decide_eq_true_eq]
    have : val l ≠ 0 ↔ 0 < m := by
      rw [← Hm.out]
      constructor
      · intro h
        rcases Nat.eq_zero_or_pos (digs (val l)).length with e | e
        · exact absurd (digs_nil.1 (List.eq_nil_of_length_eq_zero e)) h
        · exact e
      · intro h e
        rw [e, digs_zero] at h; simp at h
    rw [this])
  have hlm : m ≤ 1000000 := by have := Hl.out; omega
  cases neg
  · go_wp2_with (first | refine x_q H ?_ | refine x_cm (fun h => ?_) (fun h => ?_) | (revert H; refine x_s2 ?_; intro w1 hf H hk; have hk2 := hid hk; clear hk; (try clear hf)) | (revert H; first | (refine x_g ?_; intro g w1 hg hf H) | (refine x_s ?_; intro w1 hf H); (try clear hf)))
    refine c_post H rfl rfl rfl ?_
    exact ⟨p', c', by rw [zv_abs, HB.out, Hm.out]; rfl, H.fr, by rw [zv_abs]; exact hk2.out _ _ _ HL.out⟩
  · by_cases h0 : 0 < m
    · have HB2 : Hid (decide (zv true l < 0) = true) := hid (by rw [HB.out, decide_eq_true h0]; rfl)
      go_wp2_with (first | refine x_q H ?_ | refine x_cm (fun h => ?_) (fun h => ?_) | (revert H; refine x_s2 ?_; intro w1 hf H hk; have hk2 := hid hk; clear hk; (try clear hf)) | (revert H; first | (refine x_g ?_; intro g w1 hg hf H) | (refine x_s ?_; intro w1 hf H); (try clear hf)))
      refine c_post H rfl rfl rfl ?_
      exact ⟨p', c', by rw [zv_abs, HB2.out, Hm.out], H.fr, by rw [zv_abs]; exact hk2.out _ _ _ HL.out⟩
    · have HB2 : Hid (decide (zv true l < 0) = false) := hid (by rw [HB.out, decide_eq_false h0]; rfl)
      have h0' : m ≤ 0 := by omega
      go_wp2_with (first | refine x_q H ?_ | refine x_cm (fun h => ?_) (fun h => ?_) | (revert H; refine x_s2 ?_; intro w1 hf H hk; have hk2 := hid hk; clear hk; (try clear hf)) | (revert H; first | (refine x_g ?_; intro g w1 hg hf H) | (refine x_s ?_; intro w1 hf H); (try clear hf)))
      refine c_post H rfl rfl rfl ?_
      exact ⟨p', c', by rw [zv_abs, HB2.out, Hm.out], H.fr, by rw [zv_abs]; exact hk2.out _ _ _ HL.out⟩
theorem norm_any {w : World} {p : Option Addr} {n c : Nat} (neg : Bool) (l : List Nat) (hl : l.length = n) (hn : n ≤ 1000000) (h : LR w p c l) :
    Calls Tryd.prog 20 #[.agg #[.bool neg, .slice p n c]] w fun e w' => Big e w w' (zv neg l) := by
  have Hh := hid h
  have Hl := hid hl
  have H := Hp.start [] w
  clear h hl
  go_enter Tryd.func20, Tryd.ntmps20
  go_wp2_with (first | refine x_q H ?_ | refine x_cm (fun h => ?_) (fun h => ?_) | (revert H; first | (refine x_g ?_; intro g w1 hg hf H) | (refine x_s ?_; intro w1 hf H); (try clear hf)))
  (revert H; refine w_p 6 (.st 0 (.st 1 (.st 2 (.st 3 (.ld 4 (.ld 5 (.ld 6 .done))))))) ?_; intro w1 H)
  iterate 4 refine p_q ?_
  ((refine pl_rw rfl rfl (fun K hK => rw_call rfl Tryd.func55 (by kernel_rfl) rfl (clone_any l Hl.out hn (Hh.out.fr H.fr)) (fun e w1 hpost => ?_))); obtain ⟨p2, c2, rfl, hF, hL⟩ := hpost; refine ⟨_, rfl, ?_⟩; have HL2 := hid hL; clear hL; have H1 := H.step hF (by simp); refine hK _ _ (fun hne => by first | exact absurd rfl hne | exact H1.sub (by repeat first | exact List.Sublist.refl _ | exact List.nil_sublist _ | apply List.Sublist.cons_cons | apply List.Sublist.cons)) ?_; clear hK K; (clear H; have H := H1; clear H1); (simp only [nrm, ↓reduceIte, Nat.reduceAdd]))
  ((refine pl_rw rfl rfl (fun K hK => rw_call rfl Tryd.func53 (by kernel_rfl) rfl (big_any neg l Hl.out (HL2.out)) (fun e w1 hpost => ?_))); obtain ⟨p3, c3, rfl, hF, hL⟩ := hpost; refine ⟨_, rfl, ?_⟩; have HB2 := hid hL; clear hL; have H1 := H.step hF (by simp); refine hK _ _ (fun hne => by first | exact absurd rfl hne | exact H1.sub (by repeat first | exact List.Sublist.refl _ | exact List.nil_sublist _ | apply List.Sublist.cons_cons | apply List.Sublist.cons)) ?_; clear hK K; (clear H; have H := H1; clear H1); (simp only [nrm, ↓reduceIte, Nat.reduceAdd]))
  (revert H; refine p_s2 ?_; intro w1 hf H hk; have hk2 := hid hk; clear hk; (try clear hf))
  (refine pl_done ?_)
  all_goals
    go_wp2_with (first | refine x_q H ?_ | refine x_cm (fun h => ?_) (fun h => ?_) | (revert H; refine x_s2 ?_; intro w1 hf H hk; have hk2 := hid hk; clear hk; (try clear hf)) | (revert H; first | (refine x_g ?_; intro g w1 hg hf H) | (refine x_s ?_; intro w1 hf H); (try clear hf)))
    refine c_post H rfl rfl rfl ?_
    exact ⟨p3, c3, rfl, H.fr, hk2.out _ _ _ HB2.out⟩
theorem neg_any {w : World} {p : Option Addr} {n c : Nat} (neg : Bool) (l : List Nat) (hl : l.length = n) (hn : n ≤ 1000000) (h : LR w p c l) :
    Calls Tryd.prog 27 #[.agg #[.bool neg, .slice p n c]] w fun e w' => Big e w w' (zv (!neg) l) := by
  have Hh := hid h
  have Hl := hid hl
  have H := Hp.start [] w
  clear h hl
  go_enter Tryd.func27, Tryd.ntmps27
  go_wp2_with (first | refine x_q H ?_ | refine x_cm (fun h => ?_) (fun h => ?_) | (revert H; first | (refine x_g ?_; intro g w1 hg hf H) | (refine x_s ?_; intro w1 hf H); (try clear hf)))
  (revert H; refine w_p 7 (.st 0 (.st 1 (.st 2 (.st 3 (.st 4 (.ld 5 (.ld 6 (.ld 7 .done)))))))) ?_; intro w1 H)
  iterate 5 refine p_q ?_
  ((refine pl_rw rfl rfl (fun K hK => rw_call rfl Tryd.func55 (by kernel_rfl) rfl (clone_any l Hl.out hn (Hh.out.fr H.fr)) (fun e w1 hpost => ?_))); obtain ⟨p2, c2, rfl, hF, hL⟩ := hpost; refine ⟨_, rfl, ?_⟩; have HL2 := hid hL; clear hL; have H1 := H.step hF (by simp); refine hK _ _ (fun hne => by first | exact absurd rfl hne | exact H1.sub (by repeat first | exact List.Sublist.refl _ | exact List.nil_sublist _ | apply List.Sublist.cons_cons | apply List.Sublist.cons)) ?_; clear hK K; (clear H; have H := H1; clear H1); (simp only [nrm, ↓reduceIte, Nat.reduceAdd]))
  ((refine pl_rw rfl rfl (fun K hK => rw_call rfl Tryd.func53 (by kernel_rfl) rfl (big_any (!neg) l Hl.out (HL2.out)) (fun e w1 hpost => ?_))); obtain ⟨p3, c3, rfl, hF, hL⟩ := hpost; refine ⟨_, rfl, ?_⟩; have HB2 := hid hL; clear hL; have H1 := H.step hF (by simp); refine hK _ _ (fun hne => by first | exact absurd rfl hne | exact H1.sub (by repeat first | exact List.Sublist.refl _ | exact List.nil_sublist _ | apply List.Sublist.cons_cons | apply List.Sublist.cons)) ?_; clear hK K; (clear H; have H := H1; clear H1); (simp only [nrm, ↓reduceIte, Nat.reduceAdd]))
  (revert H; refine p_s2 ?_; intro w1 hf H hk; have hk2 := hid hk; clear hk; (try clear hf))
  (refine pl_done ?_)
  all_goals
    go_wp2_with (first | refine x_q H ?_ | refine x_cm (fun h => ?_) (fun h => ?_) | (revert H; refine x_s2 ?_; intro w1 hf H hk; have hk2 := hid hk; clear hk; (try clear hf)) | (revert H; first | (refine x_g ?_; intro g w1 hg hf H) | (refine x_s ?_; intro w1 hf H); (try clear hf)))
    refine c_post H rfl rfl rfl ?_
    exact ⟨p3, c3, rfl, H.fr, hk2.out _ _ _ HB2.out⟩
theorem abs_any {w : World} {p : Option Addr} {n c : Nat} (neg : Bool) (l : List Nat) (hl : l.length = n) (hn : n ≤ 1000000) (h : LR w p c l) :
    Calls Tryd.prog 29 #[.agg #[.bool neg, .slice p n c]] w fun e w' => Big e w w' (zv false l) := by
  have Hh := hid h
  have Hl := hid hl
  have H := Hp.start [] w
  clear h hl
  go_enter Tryd.func29, Tryd.ntmps29
  go_wp2_with (first | refine x_q H ?_ | refine x_cm (fun h => ?_) (fun h => ?_) | (revert H; first | (refine x_g ?_; intro g w1 hg hf H) | (refine x_s ?_; intro w1 hf H); (try clear hf)))
  refine Calls.mono (clone_any l Hl.out hn (Hh.out.fr H.fr)) ?_
  rintro e w1 ⟨p2, c2, rfl, hF, hL⟩
  have HL2 := hid hL
  have H1 := H.step hF (by simp)
  clear H hF hL
  have H := H1
  clear H1
  go_wp2_with (first | refine x_q H ?_ | refine x_cm (fun h => ?_) (fun h => ?_) | (revert H; first | (refine x_g ?_; intro g w1 hg hf H) | (refine x_s ?_; intro w1 hf H); (try clear hf)))
  refine Calls.mono (big_any false l Hl.out HL2.out) ?_
  rintro e w1 ⟨p3, c3, rfl, hF, hL⟩
  have HB2 := hid hL
  have H1 := H.step hF (by simp)
  clear H hF hL
  have H := H1
  clear H1
  go_wp2_with (first | refine x_q H ?_ | refine x_cm (fun h => ?_) (fun h => ?_) | (revert H; refine x_s2 ?_; intro w1 hf H hk; have hk2 := hid hk; clear hk; (try clear hf)) | (revert H; first | (refine x_g ?_; intro g w1 hg hf H) | (refine x_s ?_; intro w1 hf H); (try clear hf)))
  refine c_post H rfl rfl rfl ?_
  exact ⟨p3, c3, rfl, H.fr, hk2.out _ _ _ HB2.out⟩
theorem rnorm_any {w : World} {p : Option Addr} {n c : Nat} (neg : Bool) (l : List Nat) (hl : l.length = n) (hn : n ≤ 1000000) (h : LR w p c l) :
    Calls Tryd.prog 21 #[.agg #[.bool neg, .slice p n c]] w fun e w' => Big e w w' (zv neg l) := by
  have Hh := hid h
  have Hl := hid hl
  have H := Hp.start [] w
  clear h hl
  go_enter Tryd.func21, Tryd.ntmps21
  go_wp2_with (first | refine x_q H ?_ | refine x_cm (fun h => ?_) (fun h => ?_) | (revert H; first | (refine x_g ?_; intro g w1 hg hf H) | (refine x_s ?_; intro w1 hf H); (try clear hf)))
  refine Calls.mono (make1_any neg l Hl.out hn (Hh.out.fr H.fr)) ?_
  rintro e w1 ⟨p3, c3, rfl, hF, hL⟩
  have HB2 := hid hL
  have H1 := H.step hF (by simp)
  clear H hF hL
  have H := H1
  clear H1
  go_wp2_with (first | refine x_q H ?_ | refine x_cm (fun h => ?_) (fun h => ?_) | (revert H; refine x_s2 ?_; intro w1 hf H hk; have hk2 := hid hk; clear hk; (try clear hf)) | (revert H; first | (refine x_g ?_; intro g w1 hg hf H) | (refine x_s ?_; intro w1 hf H); (try clear hf)))
  refine c_post H rfl rfl rfl ?_
  exact ⟨p3, c3, rfl, H.fr, hk2.out _ _ _ HB2.out⟩
theorem rneg_any {w : World} {p : Option Addr} {n c : Nat} (neg : Bool) (l : List Nat) (hl : l.length = n) (hn : n ≤ 1000000) (h : LR w p c l) :
    Calls Tryd.prog 28 #[.agg #[.bool neg, .slice p n c]] w fun e w' => Big e w w' (zv (!neg) l) := by
  have Hh := hid h
  have Hl := hid hl
  have H := Hp.start [] w
  clear h hl
  go_enter Tryd.func28, Tryd.ntmps28
  go_wp2_with (first | refine x_q H ?_ | refine x_cm (fun h => ?_) (fun h => ?_) | (revert H; first | (refine x_g ?_; intro g w1 hg hf H) | (refine x_s ?_; intro w1 hf H); (try clear hf)))
  refine Calls.mono (make1_any (!neg) l Hl.out hn (Hh.out.fr H.fr)) ?_
  rintro e w1 ⟨p3, c3, rfl, hF, hL⟩
  have HB2 := hid hL
  have H1 := H.step hF (by simp)
  clear H hF hL
  have H := H1
  clear H1
  go_wp2_with (first | refine x_q H ?_ | refine x_cm (fun h => ?_) (fun h => ?_) | (revert H; refine x_s2 ?_; intro w1 hf H hk; have hk2 := hid hk; clear hk; (try clear hf)) | (revert H; first | (refine x_g ?_; intro g w1 hg hf H) | (refine x_s ?_; intro w1 hf H); (try clear hf)))
  refine c_post H rfl rfl rfl ?_
  exact ⟨p3, c3, rfl, H.fr, hk2.out _ _ _ HB2.out⟩
theorem rabs_any {w : World} {p : Option Addr} {n c : Nat} (neg : Bool) (l : List Nat) (hl : l.length = n) (hn : n ≤ 1000000) (h : LR w p c l) :
    Calls Tryd.prog 30 #[.agg #[.bool neg, .slice p n c]] w fun e w' => Big e w w' (zv false l) := by
  have Hh := hid h
  have Hl := hid hl
  have H := Hp.start [] w
  clear h hl
  go_enter Tryd.func30, Tryd.ntmps30
  go_wp2_with (first | refine x_q H ?_ | refine x_cm (fun h => ?_) (fun h => ?_) | (revert H; first | (refine x_g ?_; intro g w1 hg hf H) | (refine x_s ?_; intro w1 hf H); (try clear hf)))
  refine Calls.mono (make1_any false l Hl.out hn (Hh.out.fr H.fr)) ?_
  rintro e w1 ⟨p3, c3, rfl, hF, hL⟩
  have HB2 := hid hL
  have H1 := H.step hF (by simp)
  clear H hF hL
  have H := H1
  clear H1
  go_wp2_with (first | refine x_q H ?_ | refine x_cm (fun h => ?_) (fun h => ?_) | (revert H; refine x_s2 ?_; intro w1 hf H hk; have hk2 := hid hk; clear hk; (try clear hf)) | (revert H; first | (refine x_g ?_; intro g w1 hg hf H) | (refine x_s ?_; intro w1 hf H); (try clear hf)))
  refine c_post H rfl rfl rfl ?_
  exact ⟨p3, c3, rfl, H.fr, hk2.out _ _ _ HB2.out⟩
end Go.Proofs.YtpmebjhlgdhchaaDoor
