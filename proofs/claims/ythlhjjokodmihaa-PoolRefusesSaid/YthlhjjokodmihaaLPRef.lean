/-
  For every input the law PoolRefuses returns true: New returns the document's error for any parents, owners and workers. No condition.
-/
import Derived.Test.YthlhjjokodmihaaRw1
import Derived.Test.YthlhjjokodmihaaRw3
import Derived.ProofKit
import Derived.OpenShut
import Derived.ShutString
import Derived.ChangeOld
import Derived.Below
import Derived.Deep.DeepCutAuto
import Derived.Deep.CutBlock
namespace Go.Proofs.Ythlhjjokodmihaa
open Go.RowKit
set_option linter.unusedSimpArgs false
set_option linter.unusedVariables false
theorem newM_any {w : World} {p q : Option Addr} {c d n m : Nat} (par own : List Int) (k z : Int) (hz : checkP par own k = z) (hm : par.length = m) (hn : own.length = n) (hp : Rd w (.slice p m c) m (ints par)) (hpn : p = none → c = 0) (hpl : m ≤ 1000000) (hq : Rd w (.slice q n d) n (ints own)) (hqn : q = none → d = 0) (hol : n ≤ 1000000) :
    Calls Try.prog 10 #[.slice p m c, .slice q n d, .int .i64 k] w fun e w' => ∃ v, e = .returned (.tuple #[.pointer v, .int .i64 z]) ∧ Fr [] w w' ∧ ((z = 0 ∧ ∃ a, v = some a) ∨ (z ≠ 0 ∧ v = none)) := by
  subst hm hz
  refine Calls.mono (new_anyN par own k hn hp hpn hpl hq hqn hol) ?_
  rintro e w1 ⟨v, rfl, hF, hres⟩
  rcases hres with ⟨h, A, rfl, _⟩ | ⟨h, rfl⟩
  · exact ⟨_, rfl, hF, .inl ⟨h, _, rfl⟩⟩
  · exact ⟨_, rfl, hF, .inr ⟨h, rfl⟩⟩
theorem newR_any {w : World} {p q : Option Addr} {c d n m : Nat} (par own : List Int) (k z : Int) (hz : checkP par own k = z) (hm : par.length = m) (hn : own.length = n) (hp : Rd w (.slice p m c) m (ints par)) (hpl : m ≤ 1000000) (hq : Rd w (.slice q n d) n (ints own)) (hol : n ≤ 1000000) :
    Calls Try.prog 11 #[.slice p m c, .slice q n d, .int .i64 k] w fun e w' => ∃ v, e = .returned (.tuple #[v, .int .i64 z]) ∧ Fr [] w w' := by
  subst hm hz
  refine Calls.mono (new33_any par own k hn hp hpl hq hol) ?_
  rintro e w1 ⟨v, rfl, hF, hres⟩
  exact ⟨_, rfl, hF⟩
theorem modM_any (w : World) (x n : Int) (m : Nat) (h0 : 0 < n) (h1 : n < 1000) (hm : x % 18446744073709551616 % n = (m : Int)) : Calls Try.prog 13 #[.int .i64 x, .int .i64 n] w fun e w' => e = .returned (.int .i64 m) ∧ Fr [] w w' := by
  rw [← hm]
  exact mod_fr x n _ (by omega) (by omega)
theorem Hp.rebase {w wf w1 : World} {l : List Ent} (k : Fr [] w wf) (H : Hp [] wf w1 l) (hn : ∀ b o cs, Ent.rng b o cs ∉ l) : Hp [] w w1 l := ⟨k.trans H.fr, fun e he => by
  have h := H.ok e he
  cases e with
  | blk b cs t => exact ⟨h.1, h.2.imp id (fun x => Nat.le_trans k.size x)⟩
  | rng b o cs => exact absurd he (hn _ _ _)
  | obj k' S Q => exact ⟨h.1, h.2.1, fun x hx => (h.2.2 x hx).imp id (fun y => Nat.le_trans k.size y)⟩, H.nodup⟩
theorem big_par (n : Nat) : badPar (List.replicate n (-1)) = false := any_no (fun i hi => by
  unfold badP
  rw [List.length_replicate] at hi
  rw [List.getElem?_replicate, if_pos hi]; rfl)
theorem big_own (n : Nat) : badOwn (List.replicate n 0) 1 = false := any_no (fun i hi => by
  unfold badO
  rw [List.length_replicate] at hi
  rw [List.getElem?_replicate, if_pos hi]; rfl)
theorem big_six : checkP (List.replicate 201 (-1)) [] 0 = 6 := by unfold checkP; rw [if_pos (by rw [List.length_replicate]; decide)]
theorem big_ok : checkP (List.replicate 200 (-1)) (List.replicate 200 0) 1 = 0 := by
  unfold checkP
  rw [if_neg (by rw [List.length_replicate]; decide), big_par, if_neg (by decide), if_neg (by decide), if_neg (by rw [List.length_replicate, List.length_replicate]; decide), big_own, if_neg (by decide)]
theorem par_small {par : List Int} (h : badPar par = false) (hl : par.length ≤ 10) {i : Nat} {x : Int} (hx : par[i]? = some x) : -1 ≤ x ∧ x ≤ 10 := by
  rcases badPar_no h hx with rfl | ⟨q, rfl, _, hq⟩ <;> omega
theorem own_small {own : List Int} {k : Int} (h : badOwn own k = false) {i : Nat} {x : Int} (hx : own[i]? = some x) : 0 ≤ x ∧ x < k := by
  have hlt := (List.getElem?_eq_some_iff.1 hx).1
  have hbad : badO own k i = false := by
    have := List.any_eq_false.1 h i (List.mem_range.2 hlt)
    simpa using this
  unfold badO at hbad
  rw [hx, Option.getD_some] at hbad
  simp at hbad
  omega
set_option maxHeartbeats 40000000 in
set_option maxRecDepth 100000 in
theorem poolRefuses_any (v0 v1 : Value) (par0 own0 : List Int) (k0 : Int) (v3 : Value) (raw : List Int) (n0 at0 by0 : Int) (w : World) (hA0 : SArg w v0 par0.length (ints par0)) (hA1 : SArg w v1 own0.length (ints own0)) (hr : SArg w v3 raw.length (u64s raw)) (hb : ∀ x ∈ raw, 0 ≤ x ∧ x < 18446744073709551616) :
    Calls Try.prog 3 #[v0, v1, .int .i64 k0, v3, .int .i64 n0, .int .i64 at0, .int .i64 by0] w fun e w' => e = .returned (.bool true) ∧ Fr [] w w' := by
  have H := Hp.start [] w
  obtain ⟨p0, c0, rfl, hp0, hlc0, hcm0, hrd0⟩ := hA0
  have Hrd0 := hid (hrd0 w (Fr.refl _ _))
  obtain ⟨p1, c1, rfl, hp1, hlc1, hcm1, hrd1⟩ := hA1
  have Hrd1 := hid (hrd1 w (Fr.refl _ _))
  have Hp0 := hid hp0
  have Hp1 := hid hp1
  clear hrd0 hrd1 hp0 hp1
  by_cases h12 : 12 < par0.length ∨ 12 < own0.length
  · clear hr hb
    by_cases h1 : 12 < par0.length
    · clear h12
      go_enter Try.func3, Try.ntmps3
      go_wp2_with (first | ((first | (refine is_load rfl ?_; refine wl_ev rfl (by first | exact c_ld H rfl rfl | exact c_ld0 H rfl rfl | exact c_ldz H rfl rfl | exact c_ldr H rfl rfl) ?_) | (refine is_cmp rfl rfl ?_; first | (refine wl_ev rfl (by first | exact ev_cmpT rfl rfl rfl rfl | exact ev_cmpF rfl rfl rfl rfl | exact c_bNe rfl rfl rfl Try.underlying4 | exact c_bEq rfl rfl rfl Try.underlying4 | exact c_peq rfl rfl | exact c_pne rfl rfl) ?_) | (refine wl_cmp rfl rfl rfl rfl rfl (fun h => ?_) (fun h => ?_) <;> (simp only [cmpP] at h))) | (refine is_slice rfl ?_; refine wl_ev rfl (by first | exact c_ss rfl rfl | exact c_ssh rfl rfl rfl | exact c_ssl rfl rfl rfl | exact c_sslh rfl rfl rfl rfl | exact c_sa rfl rfl | exact c_sah rfl rfl rfl) ?_) | (refine is_indexAddr rfl ?_; refine wl_ev rfl (c_ix rfl rfl rfl) ?_)) <;> (simp only [nrm, ↓reduceIte, Nat.reduceAdd])) | ((first | (refine is_make rfl ?_; refine wl_rw rfl (fun K hK => c_mk H rfl rfl rfl (h := (fun g w1 hg hf H1 => hK _ _ ?_)))) | (refine is_store rfl ?_; first | (refine wl_rw rfl (fun K hK => c_st H rfl rfl rfl (h := (fun w1 hf H1 => hK _ _ ?_)))) | (refine wl_rw rfl (fun K hK => c_stc H rfl rfl (h := (fun w1 hf H1 => hK _ _ ?_)))))); (clear hK K); (clear H; have H := H1; clear H1; (try dsimp only at H); (try clear hf)); (simp only [nrm, ↓reduceIte, Nat.reduceAdd])))
      (refine Calls.mono (awake33_any _) ?_; rintro e w1 ⟨rfl, hF⟩)
      go_wp2_with (first | ((first | (refine is_load rfl ?_; refine wl_ev rfl (by first | exact c_ld H rfl rfl | exact c_ld0 H rfl rfl | exact c_ldz H rfl rfl | exact c_ldr H rfl rfl) ?_) | (refine is_cmp rfl rfl ?_; first | (refine wl_ev rfl (by first | exact ev_cmpT rfl rfl rfl rfl | exact ev_cmpF rfl rfl rfl rfl | exact c_bNe rfl rfl rfl Try.underlying4 | exact c_bEq rfl rfl rfl Try.underlying4 | exact c_peq rfl rfl | exact c_pne rfl rfl) ?_) | (refine wl_cmp rfl rfl rfl rfl rfl (fun h => ?_) (fun h => ?_) <;> (simp only [cmpP] at h))) | (refine is_slice rfl ?_; refine wl_ev rfl (by first | exact c_ss rfl rfl | exact c_ssh rfl rfl rfl | exact c_ssl rfl rfl rfl | exact c_sslh rfl rfl rfl rfl | exact c_sa rfl rfl | exact c_sah rfl rfl rfl) ?_) | (refine is_indexAddr rfl ?_; refine wl_ev rfl (c_ix rfl rfl rfl) ?_)) <;> (simp only [nrm, ↓reduceIte, Nat.reduceAdd])) | ((first | (refine is_make rfl ?_; refine wl_rw rfl (fun K hK => c_mk H rfl rfl rfl (h := (fun g w1 hg hf H1 => hK _ _ ?_)))) | (refine is_store rfl ?_; first | (refine wl_rw rfl (fun K hK => c_st H rfl rfl rfl (h := (fun w1 hf H1 => hK _ _ ?_)))) | (refine wl_rw rfl (fun K hK => c_stc H rfl rfl (h := (fun w1 hf H1 => hK _ _ ?_)))))); (clear hK K); (clear H; have H := H1; clear H1; (try dsimp only at H); (try clear hf)); (simp only [nrm, ↓reduceIte, Nat.reduceAdd])))
      (refine bodyPost_ret (results_tmp rfl _ _ _) rfl ?_)
      exact ⟨rfl, hF⟩
    · have h2 : 12 < own0.length := by omega
      clear h12
      go_enter Try.func3, Try.ntmps3
      go_wp2_with (first | ((first | (refine is_load rfl ?_; refine wl_ev rfl (by first | exact c_ld H rfl rfl | exact c_ld0 H rfl rfl | exact c_ldz H rfl rfl | exact c_ldr H rfl rfl) ?_) | (refine is_cmp rfl rfl ?_; first | (refine wl_ev rfl (by first | exact ev_cmpT rfl rfl rfl rfl | exact ev_cmpF rfl rfl rfl rfl | exact c_bNe rfl rfl rfl Try.underlying4 | exact c_bEq rfl rfl rfl Try.underlying4 | exact c_peq rfl rfl | exact c_pne rfl rfl) ?_) | (refine wl_cmp rfl rfl rfl rfl rfl (fun h => ?_) (fun h => ?_) <;> (simp only [cmpP] at h))) | (refine is_slice rfl ?_; refine wl_ev rfl (by first | exact c_ss rfl rfl | exact c_ssh rfl rfl rfl | exact c_ssl rfl rfl rfl | exact c_sslh rfl rfl rfl rfl | exact c_sa rfl rfl | exact c_sah rfl rfl rfl) ?_) | (refine is_indexAddr rfl ?_; refine wl_ev rfl (c_ix rfl rfl rfl) ?_)) <;> (simp only [nrm, ↓reduceIte, Nat.reduceAdd])) | ((first | (refine is_make rfl ?_; refine wl_rw rfl (fun K hK => c_mk H rfl rfl rfl (h := (fun g w1 hg hf H1 => hK _ _ ?_)))) | (refine is_store rfl ?_; first | (refine wl_rw rfl (fun K hK => c_st H rfl rfl rfl (h := (fun w1 hf H1 => hK _ _ ?_)))) | (refine wl_rw rfl (fun K hK => c_stc H rfl rfl (h := (fun w1 hf H1 => hK _ _ ?_)))))); (clear hK K); (clear H; have H := H1; clear H1; (try dsimp only at H); (try clear hf)); (simp only [nrm, ↓reduceIte, Nat.reduceAdd])))
      (refine Calls.mono (awake33_any _) ?_; rintro e w1 ⟨rfl, hF⟩)
      go_wp2_with (first | ((first | (refine is_load rfl ?_; refine wl_ev rfl (by first | exact c_ld H rfl rfl | exact c_ld0 H rfl rfl | exact c_ldz H rfl rfl | exact c_ldr H rfl rfl) ?_) | (refine is_cmp rfl rfl ?_; first | (refine wl_ev rfl (by first | exact ev_cmpT rfl rfl rfl rfl | exact ev_cmpF rfl rfl rfl rfl | exact c_bNe rfl rfl rfl Try.underlying4 | exact c_bEq rfl rfl rfl Try.underlying4 | exact c_peq rfl rfl | exact c_pne rfl rfl) ?_) | (refine wl_cmp rfl rfl rfl rfl rfl (fun h => ?_) (fun h => ?_) <;> (simp only [cmpP] at h))) | (refine is_slice rfl ?_; refine wl_ev rfl (by first | exact c_ss rfl rfl | exact c_ssh rfl rfl rfl | exact c_ssl rfl rfl rfl | exact c_sslh rfl rfl rfl rfl | exact c_sa rfl rfl | exact c_sah rfl rfl rfl) ?_) | (refine is_indexAddr rfl ?_; refine wl_ev rfl (c_ix rfl rfl rfl) ?_)) <;> (simp only [nrm, ↓reduceIte, Nat.reduceAdd])) | ((first | (refine is_make rfl ?_; refine wl_rw rfl (fun K hK => c_mk H rfl rfl rfl (h := (fun g w1 hg hf H1 => hK _ _ ?_)))) | (refine is_store rfl ?_; first | (refine wl_rw rfl (fun K hK => c_st H rfl rfl rfl (h := (fun w1 hf H1 => hK _ _ ?_)))) | (refine wl_rw rfl (fun K hK => c_stc H rfl rfl (h := (fun w1 hf H1 => hK _ _ ?_)))))); (clear hK K); (clear H; have H := H1; clear H1; (try dsimp only at H); (try clear hf)); (simp only [nrm, ↓reduceIte, Nat.reduceAdd])))
      (refine bodyPost_ret (results_tmp rfl _ _ _) rfl ?_)
      exact ⟨rfl, hF⟩
  have h1 : par0.length ≤ 12 := by omega
  have h2 : own0.length ≤ 12 := by omega
  have Hr := hid hr
  have Hb := hid hb
  clear hr hb h12
  obtain ⟨z, hz⟩ : ∃ z, checkP par0 own0 k0 = z := ⟨_, rfl⟩
  have Hz := hid hz
  clear hz
  go_enter Try.func3, Try.ntmps3
  go_wp2_with (first | ((first | (refine is_load rfl ?_; refine wl_ev rfl (by first | exact c_ld H rfl rfl | exact c_ld0 H rfl rfl | exact c_ldz H rfl rfl | exact c_ldr H rfl rfl) ?_) | (refine is_cmp rfl rfl ?_; first | (refine wl_ev rfl (by first | exact ev_cmpT rfl rfl rfl rfl | exact ev_cmpF rfl rfl rfl rfl | exact c_bNe rfl rfl rfl Try.underlying4 | exact c_bEq rfl rfl rfl Try.underlying4 | exact c_peq rfl rfl | exact c_pne rfl rfl) ?_) | (refine wl_cmp rfl rfl rfl rfl rfl (fun h => ?_) (fun h => ?_) <;> (simp only [cmpP] at h))) | (refine is_slice rfl ?_; refine wl_ev rfl (by first | exact c_ss rfl rfl | exact c_ssh rfl rfl rfl | exact c_ssl rfl rfl rfl | exact c_sslh rfl rfl rfl rfl | exact c_sa rfl rfl | exact c_sah rfl rfl rfl) ?_) | (refine is_indexAddr rfl ?_; refine wl_ev rfl (c_ix rfl rfl rfl) ?_)) <;> (simp only [nrm, ↓reduceIte, Nat.reduceAdd])) | ((first | (refine is_make rfl ?_; refine wl_rw rfl (fun K hK => c_mk H rfl rfl rfl (h := (fun g w1 hg hf H1 => hK _ _ ?_)))) | (refine is_store rfl ?_; first | (refine wl_rw rfl (fun K hK => c_st H rfl rfl rfl (h := (fun w1 hf H1 => hK _ _ ?_)))) | (refine wl_rw rfl (fun K hK => c_stc H rfl rfl (h := (fun w1 hf H1 => hK _ _ ?_)))))); (clear hK K); (clear H; have H := H1; clear H1; (try dsimp only at H); (try clear hf)); (simp only [nrm, ↓reduceIte, Nat.reduceAdd])))
  refine Calls.mono (newM_any par0 own0 k0 z Hz.out rfl rfl (Hrd0.out.fr H.fr (by simp)) Hp0.out (by omega) (Hrd1.out.fr H.fr (by simp)) Hp1.out (by omega)) ?_
  rintro e w1 ⟨pv, rfl, hF, hres⟩
  have Hpv := hid hres
  have H1 := H.step hF (by simp)
  clear H hF hres
  have H := H1
  clear H1
  go_wp2_with (first | ((first | (refine is_load rfl ?_; refine wl_ev rfl (by first | exact c_ld H rfl rfl | exact c_ld0 H rfl rfl | exact c_ldz H rfl rfl | exact c_ldr H rfl rfl) ?_) | (refine is_cmp rfl rfl ?_; first | (refine wl_ev rfl (by first | exact ev_cmpT rfl rfl rfl rfl | exact ev_cmpF rfl rfl rfl rfl | exact c_bNe rfl rfl rfl Try.underlying4 | exact c_bEq rfl rfl rfl Try.underlying4 | exact c_peq rfl rfl | exact c_pne rfl rfl) ?_) | (refine wl_cmp rfl rfl rfl rfl rfl (fun h => ?_) (fun h => ?_) <;> (simp only [cmpP] at h))) | (refine is_slice rfl ?_; refine wl_ev rfl (by first | exact c_ss rfl rfl | exact c_ssh rfl rfl rfl | exact c_ssl rfl rfl rfl | exact c_sslh rfl rfl rfl rfl | exact c_sa rfl rfl | exact c_sah rfl rfl rfl) ?_) | (refine is_indexAddr rfl ?_; refine wl_ev rfl (c_ix rfl rfl rfl) ?_)) <;> (simp only [nrm, ↓reduceIte, Nat.reduceAdd])) | ((first | (refine is_make rfl ?_; refine wl_rw rfl (fun K hK => c_mk H rfl rfl rfl (h := (fun g w1 hg hf H1 => hK _ _ ?_)))) | (refine is_store rfl ?_; first | (refine wl_rw rfl (fun K hK => c_st H rfl rfl rfl (h := (fun w1 hf H1 => hK _ _ ?_)))) | (refine wl_rw rfl (fun K hK => c_stc H rfl rfl (h := (fun w1 hf H1 => hK _ _ ?_)))))); (clear hK K); (clear H; have H := H1; clear H1; (try dsimp only at H); (try clear hf)); (simp only [nrm, ↓reduceIte, Nat.reduceAdd])))
  refine Calls.mono (newR_any par0 own0 k0 z Hz.out rfl rfl (Hrd0.out.fr H.fr (by simp)) (by omega) (Hrd1.out.fr H.fr (by simp)) (by omega)) ?_
  rintro e w1 ⟨rv, rfl, hF⟩
  have H1 := H.step hF (by simp)
  clear H hF
  have H := H1
  clear H1
  go_wp2_with (first | ((first | (refine is_load rfl ?_; refine wl_ev rfl (by first | exact c_ld H rfl rfl | exact c_ld0 H rfl rfl | exact c_ldz H rfl rfl | exact c_ldr H rfl rfl) ?_) | (refine is_cmp rfl rfl ?_; first | (refine wl_ev rfl (by first | exact ev_cmpT rfl rfl rfl rfl | exact ev_cmpF rfl rfl rfl rfl | exact c_bNe rfl rfl rfl Try.underlying4 | exact c_bEq rfl rfl rfl Try.underlying4 | exact c_peq rfl rfl | exact c_pne rfl rfl) ?_) | (refine wl_cmp rfl rfl rfl rfl rfl (fun h => ?_) (fun h => ?_) <;> (simp only [cmpP] at h))) | (refine is_slice rfl ?_; refine wl_ev rfl (by first | exact c_ss rfl rfl | exact c_ssh rfl rfl rfl | exact c_ssl rfl rfl rfl | exact c_sslh rfl rfl rfl rfl | exact c_sa rfl rfl | exact c_sah rfl rfl rfl) ?_) | (refine is_indexAddr rfl ?_; refine wl_ev rfl (c_ix rfl rfl rfl) ?_)) <;> (simp only [nrm, ↓reduceIte, Nat.reduceAdd])) | ((first | (refine is_make rfl ?_; refine wl_rw rfl (fun K hK => c_mk H rfl rfl rfl (h := (fun g w1 hg hf H1 => hK _ _ ?_)))) | (refine is_store rfl ?_; first | (refine wl_rw rfl (fun K hK => c_st H rfl rfl rfl (h := (fun w1 hf H1 => hK _ _ ?_)))) | (refine wl_rw rfl (fun K hK => c_stc H rfl rfl (h := (fun w1 hf H1 => hK _ _ ?_)))))); (clear hK K); (clear H; have H := H1; clear H1; (try dsimp only at H); (try clear hf)); (simp only [nrm, ↓reduceIte, Nat.reduceAdd])))
  refine Calls.mono (forest_any raw n0 k0 (Hr.out.fr H.fr) Hb.out) ?_
  rintro e w1 ⟨par, own, k, g1, c1, g2, c2, pad1, pad2, rfl, hF, HF, hol, hpl, hk1, hk4, hck⟩
  have H1 := HF.rebase H.fr (by simp)
  clear H hF HF
  have H := H1
  clear H1
  obtain ⟨_, hbp, _, _, hbo⟩ := checkP_ok hck
  have Hbp := hid hbp
  have Hbo := hid hbo
  have Hck := hid hck
  have Hol := hid hol
  clear hck hol hbp hbo
  go_upto_region 6 with (first | ((first | (refine is_load rfl ?_; refine wl_ev rfl (by first | exact c_ld H rfl rfl | exact c_ld0 H rfl rfl | exact c_ldz H rfl rfl | exact c_ldr H rfl rfl) ?_) | (refine is_cmp rfl rfl ?_; first | (refine wl_ev rfl (by first | exact ev_cmpT rfl rfl rfl rfl | exact ev_cmpF rfl rfl rfl rfl | exact c_bNe rfl rfl rfl Try.underlying4 | exact c_bEq rfl rfl rfl Try.underlying4 | exact c_peq rfl rfl | exact c_pne rfl rfl) ?_) | (refine wl_cmp rfl rfl rfl rfl rfl (fun h => ?_) (fun h => ?_) <;> (simp only [cmpP] at h))) | (refine is_slice rfl ?_; refine wl_ev rfl (by first | exact c_ss rfl rfl | exact c_ssh rfl rfl rfl | exact c_ssl rfl rfl rfl | exact c_sslh rfl rfl rfl rfl | exact c_sa rfl rfl | exact c_sah rfl rfl rfl) ?_) | (refine is_indexAddr rfl ?_; refine wl_ev rfl (c_ix rfl rfl rfl) ?_)) <;> (simp only [nrm, ↓reduceIte, Nat.reduceAdd])) | ((first | (refine is_make rfl ?_; refine wl_rw rfl (fun K hK => c_mk H rfl rfl rfl (h := (fun g w1 hg hf H1 => hK _ _ ?_)))) | (refine is_store rfl ?_; first | (refine wl_rw rfl (fun K hK => c_st H rfl rfl rfl (h := (fun w1 hf H1 => hK _ _ ?_)))) | (refine wl_rw rfl (fun K hK => c_stc H rfl rfl (h := (fun w1 hf H1 => hK _ _ ?_)))))); (clear hK K); (clear H; have H := H1; clear H1; (try dsimp only at H); (try clear hf)); (simp only [nrm, ↓reduceIte, Nat.reduceAdd])))
  go_cut [65] (fun s65 wx => (∃ t, s65 = .bool t ∧ (t = true → 0 < par.length)) ∧ Hp [] w wx [.blk g1 (ints par ++ pad1) 3, .blk g2 (ints own ++ pad2) 3])
  case first =>
    go_wp2_with (first | ((first | (refine is_load rfl ?_; refine wl_ev rfl (by first | exact c_ld H rfl rfl | exact c_ld0 H rfl rfl | exact c_ldz H rfl rfl | exact c_ldr H rfl rfl) ?_) | (refine is_cmp rfl rfl ?_; first | (refine wl_ev rfl (by first | exact ev_cmpT rfl rfl rfl rfl | exact ev_cmpF rfl rfl rfl rfl | exact c_bNe rfl rfl rfl Try.underlying4 | exact c_bEq rfl rfl rfl Try.underlying4 | exact c_peq rfl rfl | exact c_pne rfl rfl) ?_) | (refine wl_cmp rfl rfl rfl rfl rfl (fun h => ?_) (fun h => ?_) <;> (simp only [cmpP] at h))) | (refine is_slice rfl ?_; refine wl_ev rfl (by first | exact c_ss rfl rfl | exact c_ssh rfl rfl rfl | exact c_ssl rfl rfl rfl | exact c_sslh rfl rfl rfl rfl | exact c_sa rfl rfl | exact c_sah rfl rfl rfl) ?_) | (refine is_indexAddr rfl ?_; refine wl_ev rfl (c_ix rfl rfl rfl) ?_)) <;> (simp only [nrm, ↓reduceIte, Nat.reduceAdd])) | ((first | (refine is_make rfl ?_; refine wl_rw rfl (fun K hK => c_mk H rfl rfl rfl (h := (fun g w1 hg hf H1 => hK _ _ ?_)))) | (refine is_store rfl ?_; first | (refine wl_rw rfl (fun K hK => c_st H rfl rfl rfl (h := (fun w1 hf H1 => hK _ _ ?_)))) | (refine wl_rw rfl (fun K hK => c_stc H rfl rfl (h := (fun w1 hf H1 => hK _ _ ?_)))))); (clear hK K); (clear H; have H := H1; clear H1; (try dsimp only at H); (try clear hf)); (simp only [nrm, ↓reduceIte, Nat.reduceAdd])))
    all_goals
      go_meet
      case rel => exact ⟨⟨_, rfl, fun h => by first | (cases h; done) | omega⟩, H⟩
  case rest =>
    clear H
    obtain ⟨⟨t, rfl, ht⟩, H⟩ := hcut
    go_upto_if 65 with fail
    go_cut [] (fun wx => ∃ par' own' : List Int, Hid (par'.length = par.length) ∧ Hid (own'.length = par.length) ∧ Hp [] w wx [.blk g1 (ints par' ++ pad1) 3, .blk g2 (ints own' ++ pad2) 3])
    case first =>
      cases t
      · go_wp2_with (first | ((first | (refine is_load rfl ?_; refine wl_ev rfl (by first | exact c_ld H rfl rfl | exact c_ld0 H rfl rfl | exact c_ldz H rfl rfl | exact c_ldr H rfl rfl) ?_) | (refine is_cmp rfl rfl ?_; first | (refine wl_ev rfl (by first | exact ev_cmpT rfl rfl rfl rfl | exact ev_cmpF rfl rfl rfl rfl | exact c_bNe rfl rfl rfl Try.underlying4 | exact c_bEq rfl rfl rfl Try.underlying4 | exact c_peq rfl rfl | exact c_pne rfl rfl) ?_) | (refine wl_cmp rfl rfl rfl rfl rfl (fun h => ?_) (fun h => ?_) <;> (simp only [cmpP] at h))) | (refine is_slice rfl ?_; refine wl_ev rfl (by first | exact c_ss rfl rfl | exact c_ssh rfl rfl rfl | exact c_ssl rfl rfl rfl | exact c_sslh rfl rfl rfl rfl | exact c_sa rfl rfl | exact c_sah rfl rfl rfl) ?_) | (refine is_indexAddr rfl ?_; refine wl_ev rfl (c_ix rfl rfl rfl) ?_)) <;> (simp only [nrm, ↓reduceIte, Nat.reduceAdd])) | ((first | (refine is_make rfl ?_; refine wl_rw rfl (fun K hK => c_mk H rfl rfl rfl (h := (fun g w1 hg hf H1 => hK _ _ ?_)))) | (refine is_store rfl ?_; first | (refine wl_rw rfl (fun K hK => c_st H rfl rfl rfl (h := (fun w1 hf H1 => hK _ _ ?_)))) | (refine wl_rw rfl (fun K hK => c_stc H rfl rfl (h := (fun w1 hf H1 => hK _ _ ?_)))))); (clear hK K); (clear H; have H := H1; clear H1; (try dsimp only at H); (try clear hf)); (simp only [nrm, ↓reduceIte, Nat.reduceAdd])))
        go_meet
        case rel => exact ⟨par, own, hid rfl, hid Hol.out, H⟩
      · have hnp := ht rfl
        clear ht
        obtain ⟨m, hm, hml⟩ := mod_nat at0 par.length hnp
        obtain ⟨q, hq, hql⟩ := mod_nat by0 5 (by omega)
        obtain ⟨m2, hm2, hml2⟩ := mod_nat by0 par.length hnp
        obtain ⟨q2, hq2, hql2⟩ := mod_nat at0 3 (by omega)
        obtain ⟨x, hx⟩ : ∃ x, par[m]? = some x := ⟨_, List.getElem?_eq_getElem hml⟩
        obtain ⟨y, hy⟩ : ∃ y, own[m2]? = some y := ⟨_, List.getElem?_eq_getElem (by rw [Hol.out]; exact hml2)⟩
        obtain ⟨hx1, hx2⟩ := par_small Hbp.out hpl hx
        obtain ⟨hy1, hy2⟩ := own_small Hbo.out hy
        have hxv := pre_at (pad := pad1) (ints_at hx)
        have hyv := pre_at (pad := pad2) (ints_at hy)
        have Hm := hid hm
        have Hq := hid hq
        have Hm2 := hid hm2
        have Hq2 := hid hq2
        have hml3 : m2 < own.length := by rw [Hol.out]; exact hml2
        clear hx hy hm hq hm2 hq2
        go_wp2_with (first | ((first | (refine is_load rfl ?_; refine wl_ev rfl (by first | exact c_ld H rfl rfl | exact c_ld0 H rfl rfl | exact c_ldz H rfl rfl | exact c_ldr H rfl rfl) ?_) | (refine is_cmp rfl rfl ?_; first | (refine wl_ev rfl (by first | exact ev_cmpT rfl rfl rfl rfl | exact ev_cmpF rfl rfl rfl rfl | exact c_bNe rfl rfl rfl Try.underlying4 | exact c_bEq rfl rfl rfl Try.underlying4 | exact c_peq rfl rfl | exact c_pne rfl rfl) ?_) | (refine wl_cmp rfl rfl rfl rfl rfl (fun h => ?_) (fun h => ?_) <;> (simp only [cmpP] at h))) | (refine is_slice rfl ?_; refine wl_ev rfl (by first | exact c_ss rfl rfl | exact c_ssh rfl rfl rfl | exact c_ssl rfl rfl rfl | exact c_sslh rfl rfl rfl rfl | exact c_sa rfl rfl | exact c_sah rfl rfl rfl) ?_) | (refine is_indexAddr rfl ?_; refine wl_ev rfl (c_ix rfl rfl rfl) ?_)) <;> (simp only [nrm, ↓reduceIte, Nat.reduceAdd])) | ((first | (refine is_make rfl ?_; refine wl_rw rfl (fun K hK => c_mk H rfl rfl rfl (h := (fun g w1 hg hf H1 => hK _ _ ?_)))) | (refine is_store rfl ?_; first | (refine wl_rw rfl (fun K hK => c_st H rfl rfl rfl (h := (fun w1 hf H1 => hK _ _ ?_)))) | (refine wl_rw rfl (fun K hK => c_stc H rfl rfl (h := (fun w1 hf H1 => hK _ _ ?_)))))); (clear hK K); (clear H; have H := H1; clear H1; (try dsimp only at H); (try clear hf)); (simp only [nrm, ↓reduceIte, Nat.reduceAdd])))
        (refine wp_plan H (.cons_cons _ (List.nil_sublist _)) 12 (.st 0 (.st 1 (.st 2 (.st 3 (.st 7 (.ld 4 (.st 5 (.st 6 (.ld 8 (.st 9 (.st 10 (.st 11 (.ld 12 .done))))))))))))) rfl (by kernel_rfl) (by kernel_rfl) (by intro c a d v w h; cases d <;> exact h) (fun w1 H1 => ?_); (clear H; have H := H1; clear H1))
        (refine pl_ev rfl rfl (fun w H => ev_moveT rfl rfl) ?_; (simp only [nrm, ↓reduceIte, Nat.reduceAdd]))
        (refine pl_ev rfl rfl (fun w H => ev_moveT rfl rfl) ?_; (simp only [nrm, ↓reduceIte, Nat.reduceAdd]))
        (refine pl_ev rfl rfl (fun w H => ev_moveT rfl rfl) ?_; (simp only [nrm, ↓reduceIte, Nat.reduceAdd]))
        (refine pl_ev rfl rfl (fun w H => by first | exact c_len rfl rfl | exact ev_strLen rfl rfl) ?_; (simp only [nrm, ↓reduceIte, Nat.reduceAdd]))
        (refine pl_ev rfl rfl (fun w H => ev_moveT rfl rfl) ?_; (simp only [nrm, ↓reduceIte, Nat.reduceAdd]))
        ((refine pl_rw rfl rfl (fun K hK => rw_call rfl Try.func13 (by kernel_rfl) rfl (modM_any _ at0 par.length m (by omega) (by omega) Hm.out) (fun e w1 hpost => ?_))); obtain ⟨rfl, hF⟩ := hpost; refine ⟨_, rfl, ?_⟩; have H1 := H.step hF (by simp); refine hK _ _ (fun hne => by first | exact absurd rfl hne | exact H1.sub (by repeat first | exact List.Sublist.refl _ | exact List.nil_sublist _ | apply List.Sublist.cons_cons | apply List.Sublist.cons)) ?_; clear hK K; (clear H; have H := H1; clear H1); (simp only [nrm, ↓reduceIte, Nat.reduceAdd]))
        (refine pl_ev rfl rfl (fun w H => c_ix rfl rfl rfl) ?_; (simp only [nrm, ↓reduceIte, Nat.reduceAdd]))
        (refine pl_ev rfl rfl (fun w H => by first | exact c_ld H rfl rfl | exact c_ld0 H rfl rfl | exact c_ldz H rfl rfl | exact c_ldr H rfl rfl) ?_; (simp only [nrm, ↓reduceIte, Nat.reduceAdd]))
        ((refine pl_rw rfl rfl (fun K hK => rw_call rfl Try.func13 (by kernel_rfl) rfl (modM_any _ by0 5 q (by omega) (by omega) Hq.out) (fun e w1 hpost => ?_))); obtain ⟨rfl, hF⟩ := hpost; refine ⟨_, rfl, ?_⟩; have H1 := H.step hF (by simp); refine hK _ _ (fun hne => by first | exact absurd rfl hne | exact H1.sub (by repeat first | exact List.Sublist.refl _ | exact List.nil_sublist _ | apply List.Sublist.cons_cons | apply List.Sublist.cons)) ?_; clear hK K; (clear H; have H := H1; clear H1); (simp only [nrm, ↓reduceIte, Nat.reduceAdd]))
        (refine pl_ev rfl rfl (fun w H => by first | exact ev_sub rfl rfl rfl (by first | (simp only [inr]; omega) | assumption)) ?_; (simp only [nrm, ↓reduceIte, Nat.reduceAdd]))
        (refine pl_ev rfl rfl (fun w H => by first | exact ev_add rfl rfl rfl (by first | (simp only [inr]; omega) | assumption)) ?_; (simp only [nrm, ↓reduceIte, Nat.reduceAdd]))
        (refine pl_ev rfl rfl (fun w H => c_ix rfl rfl rfl) ?_; (simp only [nrm, ↓reduceIte, Nat.reduceAdd]))
        (first | (refine pl_rw rfl rfl (fun K hK => c_st H rfl rfl rfl (h := (fun w1 hf H1 => hK _ _ (fun hne => by first | exact absurd rfl hne | exact trivial | exact H1.sub (by repeat first | exact List.Sublist.refl _ | exact List.nil_sublist _ | apply List.Sublist.cons_cons | apply List.Sublist.cons)) ?_))); (clear hK K); (clear H; have H := H1; clear H1; (try dsimp only at H); (try clear hf)); (simp only [nrm, ↓reduceIte, Nat.reduceAdd])) | (refine pl_rw rfl rfl (fun K hK => c_stc H rfl rfl (h := (fun w1 hf H1 => hK _ _ (fun hne => by first | exact absurd rfl hne | exact trivial | exact H1.sub (by repeat first | exact List.Sublist.refl _ | exact List.nil_sublist _ | apply List.Sublist.cons_cons | apply List.Sublist.cons)) ?_))); (clear hK K); (clear H; have H := H1; clear H1; (try dsimp only at H); (try clear hf)); (simp only [nrm, ↓reduceIte, Nat.reduceAdd])) | (refine pl_rw rfl rfl (fun K hK => c_stn H rfl rfl rfl (h := (fun w1 hf H1 => hK _ _ (fun hne => by first | exact absurd rfl hne | exact trivial | exact H1.sub (by repeat first | exact List.Sublist.refl _ | exact List.nil_sublist _ | apply List.Sublist.cons_cons | apply List.Sublist.cons)) ?_))); (clear hK K); (clear H; have H := H1; clear H1; (try dsimp only at H); (try clear hf)); (simp only [nrm, ↓reduceIte, Nat.reduceAdd])))
        (refine pl_done ?_)
        all_goals
          rw [intsP_set _ _ _ _ hml] at H
          go_wp2_with (first | ((first | (refine is_load rfl ?_; refine wl_ev rfl (by first | exact c_ld H rfl rfl | exact c_ld0 H rfl rfl | exact c_ldz H rfl rfl | exact c_ldr H rfl rfl) ?_) | (refine is_cmp rfl rfl ?_; first | (refine wl_ev rfl (by first | exact ev_cmpT rfl rfl rfl rfl | exact ev_cmpF rfl rfl rfl rfl | exact c_bNe rfl rfl rfl Try.underlying4 | exact c_bEq rfl rfl rfl Try.underlying4 | exact c_peq rfl rfl | exact c_pne rfl rfl) ?_) | (refine wl_cmp rfl rfl rfl rfl rfl (fun h => ?_) (fun h => ?_) <;> (simp only [cmpP] at h))) | (refine is_slice rfl ?_; refine wl_ev rfl (by first | exact c_ss rfl rfl | exact c_ssh rfl rfl rfl | exact c_ssl rfl rfl rfl | exact c_sslh rfl rfl rfl rfl | exact c_sa rfl rfl | exact c_sah rfl rfl rfl) ?_) | (refine is_indexAddr rfl ?_; refine wl_ev rfl (c_ix rfl rfl rfl) ?_)) <;> (simp only [nrm, ↓reduceIte, Nat.reduceAdd])) | ((first | (refine is_make rfl ?_; refine wl_rw rfl (fun K hK => c_mk H rfl rfl rfl (h := (fun g w1 hg hf H1 => hK _ _ ?_)))) | (refine is_store rfl ?_; first | (refine wl_rw rfl (fun K hK => c_st H rfl rfl rfl (h := (fun w1 hf H1 => hK _ _ ?_)))) | (refine wl_rw rfl (fun K hK => c_stc H rfl rfl (h := (fun w1 hf H1 => hK _ _ ?_)))))); (clear hK K); (clear H; have H := H1; clear H1; (try dsimp only at H); (try clear hf)); (simp only [nrm, ↓reduceIte, Nat.reduceAdd])))
          (refine wp_plan H (.cons _ (.cons_cons _ (List.nil_sublist _))) 12 (.st 0 (.st 1 (.st 2 (.st 3 (.st 7 (.ld 4 (.st 5 (.st 6 (.ld 8 (.st 9 (.st 10 (.st 11 (.ld 12 .done))))))))))))) rfl (by kernel_rfl) (by kernel_rfl) (by intro c a d v w h; cases d <;> exact h) (fun w1 H1 => ?_); (clear H; have H := H1; clear H1))
          (refine pl_ev rfl rfl (fun w H => ev_moveT rfl rfl) ?_; (simp only [nrm, ↓reduceIte, Nat.reduceAdd]))
          (refine pl_ev rfl rfl (fun w H => ev_moveT rfl rfl) ?_; (simp only [nrm, ↓reduceIte, Nat.reduceAdd]))
          (refine pl_ev rfl rfl (fun w H => ev_moveT rfl rfl) ?_; (simp only [nrm, ↓reduceIte, Nat.reduceAdd]))
          (refine pl_ev rfl rfl (fun w H => by first | exact c_len rfl rfl | exact ev_strLen rfl rfl) ?_; (simp only [nrm, ↓reduceIte, Nat.reduceAdd]))
          (refine pl_ev rfl rfl (fun w H => ev_moveT rfl rfl) ?_; (simp only [nrm, ↓reduceIte, Nat.reduceAdd]))
          ((refine pl_rw rfl rfl (fun K hK => rw_call rfl Try.func13 (by kernel_rfl) rfl (modM_any _ by0 par.length m2 (by omega) (by omega) Hm2.out) (fun e w1 hpost => ?_))); obtain ⟨rfl, hF⟩ := hpost; refine ⟨_, rfl, ?_⟩; have H1 := H.step hF (by simp); refine hK _ _ (fun hne => by first | exact absurd rfl hne | exact H1.sub (by repeat first | exact List.Sublist.refl _ | exact List.nil_sublist _ | apply List.Sublist.cons_cons | apply List.Sublist.cons)) ?_; clear hK K; (clear H; have H := H1; clear H1); (simp only [nrm, ↓reduceIte, Nat.reduceAdd]))
          (refine pl_ev rfl rfl (fun w H => c_ix rfl rfl rfl) ?_; (simp only [nrm, ↓reduceIte, Nat.reduceAdd]))
          (refine pl_ev rfl rfl (fun w H => by first | exact c_ld H rfl rfl | exact c_ld0 H rfl rfl | exact c_ldz H rfl rfl | exact c_ldr H rfl rfl) ?_; (simp only [nrm, ↓reduceIte, Nat.reduceAdd]))
          ((refine pl_rw rfl rfl (fun K hK => rw_call rfl Try.func13 (by kernel_rfl) rfl (modM_any _ at0 3 q2 (by omega) (by omega) Hq2.out) (fun e w1 hpost => ?_))); obtain ⟨rfl, hF⟩ := hpost; refine ⟨_, rfl, ?_⟩; have H1 := H.step hF (by simp); refine hK _ _ (fun hne => by first | exact absurd rfl hne | exact H1.sub (by repeat first | exact List.Sublist.refl _ | exact List.nil_sublist _ | apply List.Sublist.cons_cons | apply List.Sublist.cons)) ?_; clear hK K; (clear H; have H := H1; clear H1); (simp only [nrm, ↓reduceIte, Nat.reduceAdd]))
          (refine pl_ev rfl rfl (fun w H => by first | exact ev_sub rfl rfl rfl (by first | (simp only [inr]; omega) | assumption)) ?_; (simp only [nrm, ↓reduceIte, Nat.reduceAdd]))
          (refine pl_ev rfl rfl (fun w H => by first | exact ev_add rfl rfl rfl (by first | (simp only [inr]; omega) | assumption)) ?_; (simp only [nrm, ↓reduceIte, Nat.reduceAdd]))
          (refine pl_ev rfl rfl (fun w H => c_ix rfl rfl rfl) ?_; (simp only [nrm, ↓reduceIte, Nat.reduceAdd]))
          (first | (refine pl_rw rfl rfl (fun K hK => c_st H rfl rfl rfl (h := (fun w1 hf H1 => hK _ _ (fun hne => by first | exact absurd rfl hne | exact trivial | exact H1.sub (by repeat first | exact List.Sublist.refl _ | exact List.nil_sublist _ | apply List.Sublist.cons_cons | apply List.Sublist.cons)) ?_))); (clear hK K); (clear H; have H := H1; clear H1; (try dsimp only at H); (try clear hf)); (simp only [nrm, ↓reduceIte, Nat.reduceAdd])) | (refine pl_rw rfl rfl (fun K hK => c_stc H rfl rfl (h := (fun w1 hf H1 => hK _ _ (fun hne => by first | exact absurd rfl hne | exact trivial | exact H1.sub (by repeat first | exact List.Sublist.refl _ | exact List.nil_sublist _ | apply List.Sublist.cons_cons | apply List.Sublist.cons)) ?_))); (clear hK K); (clear H; have H := H1; clear H1; (try dsimp only at H); (try clear hf)); (simp only [nrm, ↓reduceIte, Nat.reduceAdd])) | (refine pl_rw rfl rfl (fun K hK => c_stn H rfl rfl rfl (h := (fun w1 hf H1 => hK _ _ (fun hne => by first | exact absurd rfl hne | exact trivial | exact H1.sub (by repeat first | exact List.Sublist.refl _ | exact List.nil_sublist _ | apply List.Sublist.cons_cons | apply List.Sublist.cons)) ?_))); (clear hK K); (clear H; have H := H1; clear H1; (try dsimp only at H); (try clear hf)); (simp only [nrm, ↓reduceIte, Nat.reduceAdd])))
          (refine pl_done ?_)
          all_goals
            rw [intsP_set _ _ _ _ hml3] at H
            go_wp2_with (first | ((first | (refine is_load rfl ?_; refine wl_ev rfl (by first | exact c_ld H rfl rfl | exact c_ld0 H rfl rfl | exact c_ldz H rfl rfl | exact c_ldr H rfl rfl) ?_) | (refine is_cmp rfl rfl ?_; first | (refine wl_ev rfl (by first | exact ev_cmpT rfl rfl rfl rfl | exact ev_cmpF rfl rfl rfl rfl | exact c_bNe rfl rfl rfl Try.underlying4 | exact c_bEq rfl rfl rfl Try.underlying4 | exact c_peq rfl rfl | exact c_pne rfl rfl) ?_) | (refine wl_cmp rfl rfl rfl rfl rfl (fun h => ?_) (fun h => ?_) <;> (simp only [cmpP] at h))) | (refine is_slice rfl ?_; refine wl_ev rfl (by first | exact c_ss rfl rfl | exact c_ssh rfl rfl rfl | exact c_ssl rfl rfl rfl | exact c_sslh rfl rfl rfl rfl | exact c_sa rfl rfl | exact c_sah rfl rfl rfl) ?_) | (refine is_indexAddr rfl ?_; refine wl_ev rfl (c_ix rfl rfl rfl) ?_)) <;> (simp only [nrm, ↓reduceIte, Nat.reduceAdd])) | ((first | (refine is_make rfl ?_; refine wl_rw rfl (fun K hK => c_mk H rfl rfl rfl (h := (fun g w1 hg hf H1 => hK _ _ ?_)))) | (refine is_store rfl ?_; first | (refine wl_rw rfl (fun K hK => c_st H rfl rfl rfl (h := (fun w1 hf H1 => hK _ _ ?_)))) | (refine wl_rw rfl (fun K hK => c_stc H rfl rfl (h := (fun w1 hf H1 => hK _ _ ?_)))))); (clear hK K); (clear H; have H := H1; clear H1; (try dsimp only at H); (try clear hf)); (simp only [nrm, ↓reduceIte, Nat.reduceAdd])))
            go_meet
            case rel => exact ⟨_, _, hid (List.length_set ..), hid ((List.length_set ..).trans Hol.out), H⟩
    case rest =>
      clear H
      obtain ⟨par', own', Hpl', Hol', H⟩ := hcut
      obtain ⟨z2, hz2⟩ : ∃ z2, checkP par' own' k = z2 := ⟨_, rfl⟩
      have Hz2 := hid hz2
      clear hz2
      go_wp2_with (first | ((first | (refine is_load rfl ?_; refine wl_ev rfl (by first | exact c_ld H rfl rfl | exact c_ld0 H rfl rfl | exact c_ldz H rfl rfl | exact c_ldr H rfl rfl) ?_) | (refine is_cmp rfl rfl ?_; first | (refine wl_ev rfl (by first | exact ev_cmpT rfl rfl rfl rfl | exact ev_cmpF rfl rfl rfl rfl | exact c_bNe rfl rfl rfl Try.underlying4 | exact c_bEq rfl rfl rfl Try.underlying4 | exact c_peq rfl rfl | exact c_pne rfl rfl) ?_) | (refine wl_cmp rfl rfl rfl rfl rfl (fun h => ?_) (fun h => ?_) <;> (simp only [cmpP] at h))) | (refine is_slice rfl ?_; refine wl_ev rfl (by first | exact c_ss rfl rfl | exact c_ssh rfl rfl rfl | exact c_ssl rfl rfl rfl | exact c_sslh rfl rfl rfl rfl | exact c_sa rfl rfl | exact c_sah rfl rfl rfl) ?_) | (refine is_indexAddr rfl ?_; refine wl_ev rfl (c_ix rfl rfl rfl) ?_)) <;> (simp only [nrm, ↓reduceIte, Nat.reduceAdd])) | ((first | (refine is_make rfl ?_; refine wl_rw rfl (fun K hK => c_mk H rfl rfl rfl (h := (fun g w1 hg hf H1 => hK _ _ ?_)))) | (refine is_store rfl ?_; first | (refine wl_rw rfl (fun K hK => c_st H rfl rfl rfl (h := (fun w1 hf H1 => hK _ _ ?_)))) | (refine wl_rw rfl (fun K hK => c_stc H rfl rfl (h := (fun w1 hf H1 => hK _ _ ?_)))))); (clear hK K); (clear H; have H := H1; clear H1; (try dsimp only at H); (try clear hf)); (simp only [nrm, ↓reduceIte, Nat.reduceAdd])))
      refine Calls.mono (newM_any par' own' k z2 Hz2.out Hpl'.out Hol'.out (H.rd (b := g1) (off := 0) (vs := ints par') (List.prefix_append _ _)) (by simp) (by omega) (H.rd (b := g2) (off := 0) (vs := ints own') (List.prefix_append _ _)) (by simp) (by omega)) ?_
      rintro e w1 ⟨qv, rfl, hF, hres⟩
      have Hqv := hid hres
      have H1 := H.step hF (by simp)
      clear H hF hres
      have H := H1
      clear H1
      go_wp2_with (first | ((first | (refine is_load rfl ?_; refine wl_ev rfl (by first | exact c_ld H rfl rfl | exact c_ld0 H rfl rfl | exact c_ldz H rfl rfl | exact c_ldr H rfl rfl) ?_) | (refine is_cmp rfl rfl ?_; first | (refine wl_ev rfl (by first | exact ev_cmpT rfl rfl rfl rfl | exact ev_cmpF rfl rfl rfl rfl | exact c_bNe rfl rfl rfl Try.underlying4 | exact c_bEq rfl rfl rfl Try.underlying4 | exact c_peq rfl rfl | exact c_pne rfl rfl) ?_) | (refine wl_cmp rfl rfl rfl rfl rfl (fun h => ?_) (fun h => ?_) <;> (simp only [cmpP] at h))) | (refine is_slice rfl ?_; refine wl_ev rfl (by first | exact c_ss rfl rfl | exact c_ssh rfl rfl rfl | exact c_ssl rfl rfl rfl | exact c_sslh rfl rfl rfl rfl | exact c_sa rfl rfl | exact c_sah rfl rfl rfl) ?_) | (refine is_indexAddr rfl ?_; refine wl_ev rfl (c_ix rfl rfl rfl) ?_)) <;> (simp only [nrm, ↓reduceIte, Nat.reduceAdd])) | ((first | (refine is_make rfl ?_; refine wl_rw rfl (fun K hK => c_mk H rfl rfl rfl (h := (fun g w1 hg hf H1 => hK _ _ ?_)))) | (refine is_store rfl ?_; first | (refine wl_rw rfl (fun K hK => c_st H rfl rfl rfl (h := (fun w1 hf H1 => hK _ _ ?_)))) | (refine wl_rw rfl (fun K hK => c_stc H rfl rfl (h := (fun w1 hf H1 => hK _ _ ?_)))))); (clear hK K); (clear H; have H := H1; clear H1; (try dsimp only at H); (try clear hf)); (simp only [nrm, ↓reduceIte, Nat.reduceAdd])))
      refine Calls.mono (newR_any par' own' k z2 Hz2.out Hpl'.out Hol'.out (H.rd (b := g1) (off := 0) (vs := ints par') (List.prefix_append _ _)) (by omega) (H.rd (b := g2) (off := 0) (vs := ints own') (List.prefix_append _ _)) (by omega)) ?_
      rintro e w1 ⟨rv2, rfl, hF⟩
      have H1 := (H.step hF (by simp)).sub (l' := []) (by repeat first | exact List.Sublist.refl _ | exact List.nil_sublist _ | apply List.Sublist.cons_cons | apply List.Sublist.cons)
      clear H hF
      have H := H1
      clear H1
      go_wp2_with (first | ((first | (refine is_load rfl ?_; refine wl_ev rfl (by first | exact c_ld H rfl rfl | exact c_ld0 H rfl rfl | exact c_ldz H rfl rfl | exact c_ldr H rfl rfl) ?_) | (refine is_cmp rfl rfl ?_; first | (refine wl_ev rfl (by first | exact ev_cmpT rfl rfl rfl rfl | exact ev_cmpF rfl rfl rfl rfl | exact c_bNe rfl rfl rfl Try.underlying4 | exact c_bEq rfl rfl rfl Try.underlying4 | exact c_peq rfl rfl | exact c_pne rfl rfl) ?_) | (refine wl_cmp rfl rfl rfl rfl rfl (fun h => ?_) (fun h => ?_) <;> (simp only [cmpP] at h))) | (refine is_slice rfl ?_; refine wl_ev rfl (by first | exact c_ss rfl rfl | exact c_ssh rfl rfl rfl | exact c_ssl rfl rfl rfl | exact c_sslh rfl rfl rfl rfl | exact c_sa rfl rfl | exact c_sah rfl rfl rfl) ?_) | (refine is_indexAddr rfl ?_; refine wl_ev rfl (c_ix rfl rfl rfl) ?_)) <;> (simp only [nrm, ↓reduceIte, Nat.reduceAdd])) | ((first | (refine is_make rfl ?_; refine wl_rw rfl (fun K hK => c_mk H rfl rfl rfl (h := (fun g w1 hg hf H1 => hK _ _ ?_)))) | (refine is_store rfl ?_; first | (refine wl_rw rfl (fun K hK => c_st H rfl rfl rfl (h := (fun w1 hf H1 => hK _ _ ?_)))) | (refine wl_rw rfl (fun K hK => c_stc H rfl rfl (h := (fun w1 hf H1 => hK _ _ ?_)))))); (clear hK K); (clear H; have H := H1; clear H1; (try dsimp only at H); (try clear hf)); (simp only [nrm, ↓reduceIte, Nat.reduceAdd])))
      simp only [show (201 : Int).toNat = 201 from rfl, zeros_ints] at H
      go_loopw [27] (fun s27 wr => ∃ (i : Nat) (bl : List Int), i ≤ 201 ∧ s27 = .int .i64 i ∧ Hid (bl.length = 201 ∧ ∀ j, j < i → bl[j]? = some (-1)) ∧ Hp [] w wr [.blk g (ints bl) 3]) (fun u _ => 201 - (intOf u).toNat)
      case atStart => exact ⟨0, List.replicate 201 0, Nat.zero_le _, rfl, hid ⟨List.length_replicate, fun j hj => by omega⟩, H⟩
      case round =>
        clear H
        obtain ⟨i, bl, hi, rfl, Hbl, H⟩ := hrel
        have hbl : bl.length = 201 := Hbl.out.1
        by_cases hin : i < 201
        · have hil : i < bl.length := by omega
          clear hbl
          go_wp2_with (first | ((first | (refine is_load rfl ?_; refine wl_ev rfl (by first | exact c_ld H rfl rfl | exact c_ld0 H rfl rfl | exact c_ldz H rfl rfl | exact c_ldr H rfl rfl) ?_) | (refine is_cmp rfl rfl ?_; first | (refine wl_ev rfl (by first | exact ev_cmpT rfl rfl rfl rfl | exact ev_cmpF rfl rfl rfl rfl | exact c_bNe rfl rfl rfl Try.underlying4 | exact c_bEq rfl rfl rfl Try.underlying4 | exact c_peq rfl rfl | exact c_pne rfl rfl) ?_) | (refine wl_cmp rfl rfl rfl rfl rfl (fun h => ?_) (fun h => ?_) <;> (simp only [cmpP] at h))) | (refine is_slice rfl ?_; refine wl_ev rfl (by first | exact c_ss rfl rfl | exact c_ssh rfl rfl rfl | exact c_ssl rfl rfl rfl | exact c_sslh rfl rfl rfl rfl | exact c_sa rfl rfl | exact c_sah rfl rfl rfl) ?_) | (refine is_indexAddr rfl ?_; refine wl_ev rfl (c_ix rfl rfl rfl) ?_)) <;> (simp only [nrm, ↓reduceIte, Nat.reduceAdd])) | ((first | (refine is_make rfl ?_; refine wl_rw rfl (fun K hK => c_mk H rfl rfl rfl (h := (fun g w1 hg hf H1 => hK _ _ ?_)))) | (refine is_store rfl ?_; first | (refine wl_rw rfl (fun K hK => c_st H rfl rfl rfl (h := (fun w1 hf H1 => hK _ _ ?_)))) | (refine wl_rw rfl (fun K hK => c_stc H rfl rfl (h := (fun w1 hf H1 => hK _ _ ?_)))))); (clear hK K); (clear H; have H := H1; clear H1; (try dsimp only at H); (try clear hf)); (simp only [nrm, ↓reduceIte, Nat.reduceAdd])))
          rw [ints_set] at H
          go_roundw
          case rel => exact ⟨i + 1, bl.set i (-1), by omega, by go_num, hid ⟨by rw [List.length_set]; exact Hbl.out.1, fun j hj => by
            by_cases e : i = j
            · subst e; exact set_eq hil
            · rw [set_ne e]; exact Hbl.out.2 j (by omega)⟩, H⟩
          case measure => simp [intOf]; omega
        · have hbe : bl = List.replicate 201 (-1) := by
            apply List.ext_getElem?
            intro j
            rw [List.getElem?_replicate]
            by_cases hj : j < 201
            · rw [if_pos hj]; exact Hbl.out.2 j (by omega)
            · rw [if_neg hj]; exact List.getElem?_eq_none (by omega)
          subst hbe
          clear hbl Hbl
          go_wp2_with (first | ((first | (refine is_load rfl ?_; refine wl_ev rfl (by first | exact c_ld H rfl rfl | exact c_ld0 H rfl rfl | exact c_ldz H rfl rfl | exact c_ldr H rfl rfl) ?_) | (refine is_cmp rfl rfl ?_; first | (refine wl_ev rfl (by first | exact ev_cmpT rfl rfl rfl rfl | exact ev_cmpF rfl rfl rfl rfl | exact c_bNe rfl rfl rfl Try.underlying4 | exact c_bEq rfl rfl rfl Try.underlying4 | exact c_peq rfl rfl | exact c_pne rfl rfl) ?_) | (refine wl_cmp rfl rfl rfl rfl rfl (fun h => ?_) (fun h => ?_) <;> (simp only [cmpP] at h))) | (refine is_slice rfl ?_; refine wl_ev rfl (by first | exact c_ss rfl rfl | exact c_ssh rfl rfl rfl | exact c_ssl rfl rfl rfl | exact c_sslh rfl rfl rfl rfl | exact c_sa rfl rfl | exact c_sah rfl rfl rfl) ?_) | (refine is_indexAddr rfl ?_; refine wl_ev rfl (c_ix rfl rfl rfl) ?_)) <;> (simp only [nrm, ↓reduceIte, Nat.reduceAdd])) | ((first | (refine is_make rfl ?_; refine wl_rw rfl (fun K hK => c_mk H rfl rfl rfl (h := (fun g w1 hg hf H1 => hK _ _ ?_)))) | (refine is_store rfl ?_; first | (refine wl_rw rfl (fun K hK => c_st H rfl rfl rfl (h := (fun w1 hf H1 => hK _ _ ?_)))) | (refine wl_rw rfl (fun K hK => c_stc H rfl rfl (h := (fun w1 hf H1 => hK _ _ ?_)))))); (clear hK K); (clear H; have H := H1; clear H1; (try dsimp only at H); (try clear hf)); (simp only [nrm, ↓reduceIte, Nat.reduceAdd])))
          refine Calls.mono (newM_any (List.replicate 201 (-1)) [] 0 6 big_six List.length_replicate rfl (H.rd (b := g) (off := 0) (vs := ints (List.replicate 201 (-1))) List.prefix_rfl) (by simp) (by decide) (.inl ⟨rfl, rfl, _, _, rfl⟩) (by simp) (by decide)) ?_
          rintro e w1 ⟨bv, rfl, hF, _⟩
          have H1 := H.step hF (by simp)
          clear H hF
          have H := H1
          clear H1
          go_wp2_with (first | ((first | (refine is_load rfl ?_; refine wl_ev rfl (by first | exact c_ld H rfl rfl | exact c_ld0 H rfl rfl | exact c_ldz H rfl rfl | exact c_ldr H rfl rfl) ?_) | (refine is_cmp rfl rfl ?_; first | (refine wl_ev rfl (by first | exact ev_cmpT rfl rfl rfl rfl | exact ev_cmpF rfl rfl rfl rfl | exact c_bNe rfl rfl rfl Try.underlying4 | exact c_bEq rfl rfl rfl Try.underlying4 | exact c_peq rfl rfl | exact c_pne rfl rfl) ?_) | (refine wl_cmp rfl rfl rfl rfl rfl (fun h => ?_) (fun h => ?_) <;> (simp only [cmpP] at h))) | (refine is_slice rfl ?_; refine wl_ev rfl (by first | exact c_ss rfl rfl | exact c_ssh rfl rfl rfl | exact c_ssl rfl rfl rfl | exact c_sslh rfl rfl rfl rfl | exact c_sa rfl rfl | exact c_sah rfl rfl rfl) ?_) | (refine is_indexAddr rfl ?_; refine wl_ev rfl (c_ix rfl rfl rfl) ?_)) <;> (simp only [nrm, ↓reduceIte, Nat.reduceAdd])) | ((first | (refine is_make rfl ?_; refine wl_rw rfl (fun K hK => c_mk H rfl rfl rfl (h := (fun g w1 hg hf H1 => hK _ _ ?_)))) | (refine is_store rfl ?_; first | (refine wl_rw rfl (fun K hK => c_st H rfl rfl rfl (h := (fun w1 hf H1 => hK _ _ ?_)))) | (refine wl_rw rfl (fun K hK => c_stc H rfl rfl (h := (fun w1 hf H1 => hK _ _ ?_)))))); (clear hK K); (clear H; have H := H1; clear H1; (try dsimp only at H); (try clear hf)); (simp only [nrm, ↓reduceIte, Nat.reduceAdd])))
          (refine wp_plan H (List.Sublist.refl _) 9 (.st 0 (.st 1 (.ld 2 (.ld 3 (.st 4 (.st 5 (.st 6 (.st 7 (.st 8 .done))))))))) rfl (by kernel_rfl) (by kernel_rfl) (by intro c a d v w h; cases d <;> exact h) (fun w1 H1 => ?_); (clear H; have H := H1; clear H1))
          (refine pl_ev rfl rfl (fun w H => ev_moveT rfl rfl) ?_; (simp only [nrm, ↓reduceIte, Nat.reduceAdd]))
          (refine pl_ev rfl rfl (fun w H => by first | exact c_ss rfl rfl | exact c_ssh rfl rfl rfl | exact c_ssl rfl rfl rfl | exact c_sslh rfl rfl rfl rfl | exact c_sa rfl rfl | exact c_sah rfl rfl rfl) ?_; (simp only [nrm, ↓reduceIte, Nat.reduceAdd]))
          (refine pl_rw rfl rfl (fun K hK => c_mk H rfl rfl rfl (h := fun gz w1 hg hf H1 => hK _ _ (fun hne => by first | exact absurd rfl hne | exact trivial | exact H1.sub (by repeat first | exact List.Sublist.refl _ | exact List.nil_sublist _ | apply List.Sublist.cons_cons | apply List.Sublist.cons)) ?_)); (clear hK K); (clear H; have H := H1; clear H1; (try dsimp only at H); (try clear hf)); (simp only [nrm, ↓reduceIte, Nat.reduceAdd]))
          ((refine pl_rw rfl rfl (fun K hK => rw_call rfl Try.func10 (by kernel_rfl) rfl (newM_any (n := 200) (m := 200) (List.replicate 200 (-1)) (List.replicate 200 0) 1 0 big_ok List.length_replicate List.length_replicate (H.rd (b := g) (off := 1) (vs := ints (List.replicate 200 (-1))) (by exact List.prefix_rfl)) (by simp) (by decide) (by have h := H.rd (b := gz) (off := 0) (n := 200) (c := 200) (vs := (List.replicate 200 [Value.int .i64 0]).flatten) List.prefix_rfl; rw [zeros_ints] at h; exact h) (by simp) (by decide)) (fun e w1 hpost => ?_))); obtain ⟨cv, rfl, hF, _⟩ := hpost; refine ⟨_, rfl, ?_⟩; have H1 := H.step hF (by simp); refine hK _ _ (fun hne => by first | exact absurd rfl hne | exact H1.sub (by repeat first | exact List.Sublist.refl _ | exact List.nil_sublist _ | apply List.Sublist.cons_cons | apply List.Sublist.cons)) ?_; clear hK K; (clear H; have H := H1; clear H1); (simp only [nrm, ↓reduceIte, Nat.reduceAdd]))
          (refine pl_ev rfl rfl (fun w H => ev_moveT rfl rfl) ?_; (simp only [nrm, ↓reduceIte, Nat.reduceAdd]))
          (refine pl_ev rfl rfl (fun w H => ev_extract rfl rfl rfl) ?_; (simp only [nrm, ↓reduceIte, Nat.reduceAdd]))
          (refine pl_ev rfl rfl (fun w H => ev_extract rfl rfl rfl) ?_; (simp only [nrm, ↓reduceIte, Nat.reduceAdd]))
          (refine pl_ev rfl rfl (fun w H => ev_assignT rfl rfl) ?_; (simp only [nrm, ↓reduceIte, Nat.reduceAdd]))
          (refine pl_ev rfl rfl (fun w H => ev_assignT rfl rfl) ?_; (simp only [nrm, ↓reduceIte, Nat.reduceAdd]))
          (refine pl_done ?_)
          all_goals
            rcases Hpv.out with ⟨hz1, a1, rfl⟩ | ⟨hz1, rfl⟩
            · rcases Hqv.out with ⟨hz3, a2, rfl⟩ | ⟨hz3, rfl⟩
              · subst hz1 hz3
                go_wp2_with (first | ((first | (refine is_load rfl ?_; refine wl_ev rfl (by first | exact c_ld H rfl rfl | exact c_ld0 H rfl rfl | exact c_ldz H rfl rfl | exact c_ldr H rfl rfl) ?_) | (refine is_cmp rfl rfl ?_; first | (refine wl_ev rfl (by first | exact ev_cmpT rfl rfl rfl rfl | exact ev_cmpF rfl rfl rfl rfl | exact c_bNe rfl rfl rfl Try.underlying4 | exact c_bEq rfl rfl rfl Try.underlying4 | exact c_peq rfl rfl | exact c_pne rfl rfl) ?_) | (refine wl_cmp rfl rfl rfl rfl rfl (fun h => ?_) (fun h => ?_) <;> (simp only [cmpP] at h))) | (refine is_slice rfl ?_; refine wl_ev rfl (by first | exact c_ss rfl rfl | exact c_ssh rfl rfl rfl | exact c_ssl rfl rfl rfl | exact c_sslh rfl rfl rfl rfl | exact c_sa rfl rfl | exact c_sah rfl rfl rfl) ?_) | (refine is_indexAddr rfl ?_; refine wl_ev rfl (c_ix rfl rfl rfl) ?_)) <;> (simp only [nrm, ↓reduceIte, Nat.reduceAdd])) | ((first | (refine is_make rfl ?_; refine wl_rw rfl (fun K hK => c_mk H rfl rfl rfl (h := (fun g w1 hg hf H1 => hK _ _ ?_)))) | (refine is_store rfl ?_; first | (refine wl_rw rfl (fun K hK => c_st H rfl rfl rfl (h := (fun w1 hf H1 => hK _ _ ?_)))) | (refine wl_rw rfl (fun K hK => c_stc H rfl rfl (h := (fun w1 hf H1 => hK _ _ ?_)))))); (clear hK K); (clear H; have H := H1; clear H1; (try dsimp only at H); (try clear hf)); (simp only [nrm, ↓reduceIte, Nat.reduceAdd])))
                (refine Calls.mono (awake33_any _) ?_; rintro e w1 ⟨rfl, hF⟩; have H1 := H.step hF (by simp); clear H; have H := H1; clear H1)
                go_wp2_with (first | ((first | (refine is_load rfl ?_; refine wl_ev rfl (by first | exact c_ld H rfl rfl | exact c_ld0 H rfl rfl | exact c_ldz H rfl rfl | exact c_ldr H rfl rfl) ?_) | (refine is_cmp rfl rfl ?_; first | (refine wl_ev rfl (by first | exact ev_cmpT rfl rfl rfl rfl | exact ev_cmpF rfl rfl rfl rfl | exact c_bNe rfl rfl rfl Try.underlying4 | exact c_bEq rfl rfl rfl Try.underlying4 | exact c_peq rfl rfl | exact c_pne rfl rfl) ?_) | (refine wl_cmp rfl rfl rfl rfl rfl (fun h => ?_) (fun h => ?_) <;> (simp only [cmpP] at h))) | (refine is_slice rfl ?_; refine wl_ev rfl (by first | exact c_ss rfl rfl | exact c_ssh rfl rfl rfl | exact c_ssl rfl rfl rfl | exact c_sslh rfl rfl rfl rfl | exact c_sa rfl rfl | exact c_sah rfl rfl rfl) ?_) | (refine is_indexAddr rfl ?_; refine wl_ev rfl (c_ix rfl rfl rfl) ?_)) <;> (simp only [nrm, ↓reduceIte, Nat.reduceAdd])) | ((first | (refine is_make rfl ?_; refine wl_rw rfl (fun K hK => c_mk H rfl rfl rfl (h := (fun g w1 hg hf H1 => hK _ _ ?_)))) | (refine is_store rfl ?_; first | (refine wl_rw rfl (fun K hK => c_st H rfl rfl rfl (h := (fun w1 hf H1 => hK _ _ ?_)))) | (refine wl_rw rfl (fun K hK => c_stc H rfl rfl (h := (fun w1 hf H1 => hK _ _ ?_)))))); (clear hK K); (clear H; have H := H1; clear H1; (try dsimp only at H); (try clear hf)); (simp only [nrm, ↓reduceIte, Nat.reduceAdd])))
                (refine bodyPost_ret (results_tmp rfl _ _ _) rfl ?_)
                exact ⟨rfl, H.fr⟩
              · subst hz1
                go_wp2_with (first | ((first | (refine is_load rfl ?_; refine wl_ev rfl (by first | exact c_ld H rfl rfl | exact c_ld0 H rfl rfl | exact c_ldz H rfl rfl | exact c_ldr H rfl rfl) ?_) | (refine is_cmp rfl rfl ?_; first | (refine wl_ev rfl (by first | exact ev_cmpT rfl rfl rfl rfl | exact ev_cmpF rfl rfl rfl rfl | exact c_bNe rfl rfl rfl Try.underlying4 | exact c_bEq rfl rfl rfl Try.underlying4 | exact c_peq rfl rfl | exact c_pne rfl rfl) ?_) | (refine wl_cmp rfl rfl rfl rfl rfl (fun h => ?_) (fun h => ?_) <;> (simp only [cmpP] at h))) | (refine is_slice rfl ?_; refine wl_ev rfl (by first | exact c_ss rfl rfl | exact c_ssh rfl rfl rfl | exact c_ssl rfl rfl rfl | exact c_sslh rfl rfl rfl rfl | exact c_sa rfl rfl | exact c_sah rfl rfl rfl) ?_) | (refine is_indexAddr rfl ?_; refine wl_ev rfl (c_ix rfl rfl rfl) ?_)) <;> (simp only [nrm, ↓reduceIte, Nat.reduceAdd])) | ((first | (refine is_make rfl ?_; refine wl_rw rfl (fun K hK => c_mk H rfl rfl rfl (h := (fun g w1 hg hf H1 => hK _ _ ?_)))) | (refine is_store rfl ?_; first | (refine wl_rw rfl (fun K hK => c_st H rfl rfl rfl (h := (fun w1 hf H1 => hK _ _ ?_)))) | (refine wl_rw rfl (fun K hK => c_stc H rfl rfl (h := (fun w1 hf H1 => hK _ _ ?_)))))); (clear hK K); (clear H; have H := H1; clear H1; (try dsimp only at H); (try clear hf)); (simp only [nrm, ↓reduceIte, Nat.reduceAdd])))
                (refine Calls.mono (awake33_any _) ?_; rintro e w1 ⟨rfl, hF⟩; have H1 := H.step hF (by simp); clear H; have H := H1; clear H1)
                go_wp2_with (first | ((first | (refine is_load rfl ?_; refine wl_ev rfl (by first | exact c_ld H rfl rfl | exact c_ld0 H rfl rfl | exact c_ldz H rfl rfl | exact c_ldr H rfl rfl) ?_) | (refine is_cmp rfl rfl ?_; first | (refine wl_ev rfl (by first | exact ev_cmpT rfl rfl rfl rfl | exact ev_cmpF rfl rfl rfl rfl | exact c_bNe rfl rfl rfl Try.underlying4 | exact c_bEq rfl rfl rfl Try.underlying4 | exact c_peq rfl rfl | exact c_pne rfl rfl) ?_) | (refine wl_cmp rfl rfl rfl rfl rfl (fun h => ?_) (fun h => ?_) <;> (simp only [cmpP] at h))) | (refine is_slice rfl ?_; refine wl_ev rfl (by first | exact c_ss rfl rfl | exact c_ssh rfl rfl rfl | exact c_ssl rfl rfl rfl | exact c_sslh rfl rfl rfl rfl | exact c_sa rfl rfl | exact c_sah rfl rfl rfl) ?_) | (refine is_indexAddr rfl ?_; refine wl_ev rfl (c_ix rfl rfl rfl) ?_)) <;> (simp only [nrm, ↓reduceIte, Nat.reduceAdd])) | ((first | (refine is_make rfl ?_; refine wl_rw rfl (fun K hK => c_mk H rfl rfl rfl (h := (fun g w1 hg hf H1 => hK _ _ ?_)))) | (refine is_store rfl ?_; first | (refine wl_rw rfl (fun K hK => c_st H rfl rfl rfl (h := (fun w1 hf H1 => hK _ _ ?_)))) | (refine wl_rw rfl (fun K hK => c_stc H rfl rfl (h := (fun w1 hf H1 => hK _ _ ?_)))))); (clear hK K); (clear H; have H := H1; clear H1; (try dsimp only at H); (try clear hf)); (simp only [nrm, ↓reduceIte, Nat.reduceAdd])))
                (refine bodyPost_ret (results_tmp rfl _ _ _) rfl ?_)
                exact ⟨rfl, H.fr⟩
            · rcases Hqv.out with ⟨hz3, a2, rfl⟩ | ⟨hz3, rfl⟩
              · subst hz3
                go_wp2_with (first | ((first | (refine is_load rfl ?_; refine wl_ev rfl (by first | exact c_ld H rfl rfl | exact c_ld0 H rfl rfl | exact c_ldz H rfl rfl | exact c_ldr H rfl rfl) ?_) | (refine is_cmp rfl rfl ?_; first | (refine wl_ev rfl (by first | exact ev_cmpT rfl rfl rfl rfl | exact ev_cmpF rfl rfl rfl rfl | exact c_bNe rfl rfl rfl Try.underlying4 | exact c_bEq rfl rfl rfl Try.underlying4 | exact c_peq rfl rfl | exact c_pne rfl rfl) ?_) | (refine wl_cmp rfl rfl rfl rfl rfl (fun h => ?_) (fun h => ?_) <;> (simp only [cmpP] at h))) | (refine is_slice rfl ?_; refine wl_ev rfl (by first | exact c_ss rfl rfl | exact c_ssh rfl rfl rfl | exact c_ssl rfl rfl rfl | exact c_sslh rfl rfl rfl rfl | exact c_sa rfl rfl | exact c_sah rfl rfl rfl) ?_) | (refine is_indexAddr rfl ?_; refine wl_ev rfl (c_ix rfl rfl rfl) ?_)) <;> (simp only [nrm, ↓reduceIte, Nat.reduceAdd])) | ((first | (refine is_make rfl ?_; refine wl_rw rfl (fun K hK => c_mk H rfl rfl rfl (h := (fun g w1 hg hf H1 => hK _ _ ?_)))) | (refine is_store rfl ?_; first | (refine wl_rw rfl (fun K hK => c_st H rfl rfl rfl (h := (fun w1 hf H1 => hK _ _ ?_)))) | (refine wl_rw rfl (fun K hK => c_stc H rfl rfl (h := (fun w1 hf H1 => hK _ _ ?_)))))); (clear hK K); (clear H; have H := H1; clear H1; (try dsimp only at H); (try clear hf)); (simp only [nrm, ↓reduceIte, Nat.reduceAdd])))
                (refine Calls.mono (awake33_any _) ?_; rintro e w1 ⟨rfl, hF⟩; have H1 := H.step hF (by simp); clear H; have H := H1; clear H1)
                go_wp2_with (first | ((first | (refine is_load rfl ?_; refine wl_ev rfl (by first | exact c_ld H rfl rfl | exact c_ld0 H rfl rfl | exact c_ldz H rfl rfl | exact c_ldr H rfl rfl) ?_) | (refine is_cmp rfl rfl ?_; first | (refine wl_ev rfl (by first | exact ev_cmpT rfl rfl rfl rfl | exact ev_cmpF rfl rfl rfl rfl | exact c_bNe rfl rfl rfl Try.underlying4 | exact c_bEq rfl rfl rfl Try.underlying4 | exact c_peq rfl rfl | exact c_pne rfl rfl) ?_) | (refine wl_cmp rfl rfl rfl rfl rfl (fun h => ?_) (fun h => ?_) <;> (simp only [cmpP] at h))) | (refine is_slice rfl ?_; refine wl_ev rfl (by first | exact c_ss rfl rfl | exact c_ssh rfl rfl rfl | exact c_ssl rfl rfl rfl | exact c_sslh rfl rfl rfl rfl | exact c_sa rfl rfl | exact c_sah rfl rfl rfl) ?_) | (refine is_indexAddr rfl ?_; refine wl_ev rfl (c_ix rfl rfl rfl) ?_)) <;> (simp only [nrm, ↓reduceIte, Nat.reduceAdd])) | ((first | (refine is_make rfl ?_; refine wl_rw rfl (fun K hK => c_mk H rfl rfl rfl (h := (fun g w1 hg hf H1 => hK _ _ ?_)))) | (refine is_store rfl ?_; first | (refine wl_rw rfl (fun K hK => c_st H rfl rfl rfl (h := (fun w1 hf H1 => hK _ _ ?_)))) | (refine wl_rw rfl (fun K hK => c_stc H rfl rfl (h := (fun w1 hf H1 => hK _ _ ?_)))))); (clear hK K); (clear H; have H := H1; clear H1; (try dsimp only at H); (try clear hf)); (simp only [nrm, ↓reduceIte, Nat.reduceAdd])))
                (refine bodyPost_ret (results_tmp rfl _ _ _) rfl ?_)
                exact ⟨rfl, H.fr⟩
              · go_wp2_with (first | ((first | (refine is_load rfl ?_; refine wl_ev rfl (by first | exact c_ld H rfl rfl | exact c_ld0 H rfl rfl | exact c_ldz H rfl rfl | exact c_ldr H rfl rfl) ?_) | (refine is_cmp rfl rfl ?_; first | (refine wl_ev rfl (by first | exact ev_cmpT rfl rfl rfl rfl | exact ev_cmpF rfl rfl rfl rfl | exact c_bNe rfl rfl rfl Try.underlying4 | exact c_bEq rfl rfl rfl Try.underlying4 | exact c_peq rfl rfl | exact c_pne rfl rfl) ?_) | (refine wl_cmp rfl rfl rfl rfl rfl (fun h => ?_) (fun h => ?_) <;> (simp only [cmpP] at h))) | (refine is_slice rfl ?_; refine wl_ev rfl (by first | exact c_ss rfl rfl | exact c_ssh rfl rfl rfl | exact c_ssl rfl rfl rfl | exact c_sslh rfl rfl rfl rfl | exact c_sa rfl rfl | exact c_sah rfl rfl rfl) ?_) | (refine is_indexAddr rfl ?_; refine wl_ev rfl (c_ix rfl rfl rfl) ?_)) <;> (simp only [nrm, ↓reduceIte, Nat.reduceAdd])) | ((first | (refine is_make rfl ?_; refine wl_rw rfl (fun K hK => c_mk H rfl rfl rfl (h := (fun g w1 hg hf H1 => hK _ _ ?_)))) | (refine is_store rfl ?_; first | (refine wl_rw rfl (fun K hK => c_st H rfl rfl rfl (h := (fun w1 hf H1 => hK _ _ ?_)))) | (refine wl_rw rfl (fun K hK => c_stc H rfl rfl (h := (fun w1 hf H1 => hK _ _ ?_)))))); (clear hK K); (clear H; have H := H1; clear H1; (try dsimp only at H); (try clear hf)); (simp only [nrm, ↓reduceIte, Nat.reduceAdd])))
                (refine Calls.mono (awake33_any _) ?_; rintro e w1 ⟨rfl, hF⟩; have H1 := H.step hF (by simp); clear H; have H := H1; clear H1)
                go_wp2_with (first | ((first | (refine is_load rfl ?_; refine wl_ev rfl (by first | exact c_ld H rfl rfl | exact c_ld0 H rfl rfl | exact c_ldz H rfl rfl | exact c_ldr H rfl rfl) ?_) | (refine is_cmp rfl rfl ?_; first | (refine wl_ev rfl (by first | exact ev_cmpT rfl rfl rfl rfl | exact ev_cmpF rfl rfl rfl rfl | exact c_bNe rfl rfl rfl Try.underlying4 | exact c_bEq rfl rfl rfl Try.underlying4 | exact c_peq rfl rfl | exact c_pne rfl rfl) ?_) | (refine wl_cmp rfl rfl rfl rfl rfl (fun h => ?_) (fun h => ?_) <;> (simp only [cmpP] at h))) | (refine is_slice rfl ?_; refine wl_ev rfl (by first | exact c_ss rfl rfl | exact c_ssh rfl rfl rfl | exact c_ssl rfl rfl rfl | exact c_sslh rfl rfl rfl rfl | exact c_sa rfl rfl | exact c_sah rfl rfl rfl) ?_) | (refine is_indexAddr rfl ?_; refine wl_ev rfl (c_ix rfl rfl rfl) ?_)) <;> (simp only [nrm, ↓reduceIte, Nat.reduceAdd])) | ((first | (refine is_make rfl ?_; refine wl_rw rfl (fun K hK => c_mk H rfl rfl rfl (h := (fun g w1 hg hf H1 => hK _ _ ?_)))) | (refine is_store rfl ?_; first | (refine wl_rw rfl (fun K hK => c_st H rfl rfl rfl (h := (fun w1 hf H1 => hK _ _ ?_)))) | (refine wl_rw rfl (fun K hK => c_stc H rfl rfl (h := (fun w1 hf H1 => hK _ _ ?_)))))); (clear hK K); (clear H; have H := H1; clear H1; (try dsimp only at H); (try clear hf)); (simp only [nrm, ↓reduceIte, Nat.reduceAdd])))
                (refine bodyPost_ret (results_tmp rfl _ _ _) rfl ?_)
                exact ⟨rfl, H.fr⟩
open Go.ChangeShapes Go.WideShapes Go.Deep in
theorem arg_intsV {H : Type} {enc : TypeId × Value → H} {W : World} {base : Nat} {d : DataW H} {p : List MemPlace} (v : Value) (k : DataW.Trod enc Try.prog W 0 (fun _ => true) true 22 v d p) (o : Value.okWide Try.prog W .any base 22 v) : ∃ l : List Int, SArg W v l.length (ints l) := by
  obtain ⟨n, hn⟩ := k
  obtain ⟨a, l, c, rfl⟩ := okWide_slice Try.underlying22 o
  obtain ⟨v', s, h1, h2, h3⟩ := open_all (fun x : Int => [Value.int .i64 x]) (fun _ => True) 1 Try.underlying22 (by kernel_rfl) (fun n es y hl hy => by
    obtain ⟨z, rfl, _⟩ := DataW.trod_int Try.underlying3 hy
    exact ⟨z, rfl, trivial⟩) hn
  simp only [Value.cells, List.cons.injEq, and_true] at h1
  subst h1
  have e : s.flatMap (fun x : Int => [Value.int .i64 x]) = ints s := by unfold ints; rw [List.map_eq_flatMap]
  rw [e] at h2
  exact ⟨s, h2⟩
theorem poolRefuses_walk {H : Type} {enc : TypeId × Value → H} {W : World} {base : Nat} {d0 d1 d3 : DataW H} {p0 p1 p3 : List MemPlace} (v0 : Value) (k0 : DataW.Trod enc Try.prog W 0 (fun _ => true) true 22 v0 d0 p0) (o0 : Value.okWide Try.prog W .any base 22 v0) (v1 : Value) (k1 : DataW.Trod enc Try.prog W 0 (fun _ => true) true 22 v1 d1 p1) (o1 : Value.okWide Try.prog W .any base 22 v1) (a2 : Int) (_w2 : (Lit.int .i64 a2).wf = true)
    (v3 : Value) (k3 : DataW.Trod enc Try.prog W 0 (fun _ => true) true 23 v3 d3 p3) (o3 : Value.okWide Try.prog W .any base 23 v3) (a4 : Int) (_w4 : (Lit.int .i64 a4).wf = true) (a5 : Int) (_w5 : (Lit.int .i64 a5).wf = true) (a6 : Int) (_w6 : (Lit.int .i64 a6).wf = true) (_W : World) :
    Calls Try.prog 3 #[v0, v1, .int .i64 a2, v3, .int .i64 a4, .int .i64 a5, .int .i64 a6] W fun e W' => e = .returned (.bool true) ∧ Fr [] W W' := by
  obtain ⟨l0, h0⟩ := arg_intsV v0 k0 o0
  obtain ⟨l1, h1⟩ := arg_intsV v1 k1 o1
  obtain ⟨raw, h3, h4⟩ := arg_u64s v3 k3 o3
  exact poolRefuses_any v0 v1 l0 l1 a2 v3 raw a4 a5 a6 W h0 h1 h3 h4
namespace poolRefuses
open Go.ChangeShapes Go.WideShapes Go.ChangeAt Go.RowKit
theorem own : ownKnob Try.prog.godebug = none := by kernel_rfl
theorem laidOut : laidOutB Try.prog = true := by kernel_rfl
set_option maxRecDepth 100000 in
theorem lifted (os : Os) (started : os.Started) (H : Type) (enc : TypeId × Value → H) :
    ReturnsInHanded {} Try.checked os 3 .any (Rows.poolRefusesSpec.pre6 enc Try.prog Try.f3 Rows.poolRefusesRow.domain false) (Rows.poolRefusesSpec.post enc Try.prog Try.f3 false true false false) := by
  refine returnsInHanded_of_change (C := Try.checked) own started (by kernel_rfl) Try.func3
    (ChangeSpec.witness6 (enc := enc) (C := Try.checked) false ⟨#[], #[.slice none 0 0, .slice none 0 0, .int .i64 0, .slice none 0 0, .int .i64 0, .int .i64 0, .int .i64 0], []⟩ 8 (by kernel_rfl) (by kernel_rfl) (by kernel_rfl) (by kernel_rfl)) ?_
  intro W base args ds gs before hval0 hW hcnd _
  have hval : ∀ (j : Nat) t v, Try.f3.params[j]? = some t → args[j]? = some v → Value.okWide Try.prog W .any base t v := hval0
  have hW' := hW
  obtain ⟨p, q, hA0, hV, rfl, hfz, hnd⟩ := hW
  have hA : DataW.TrodAll enc Try.prog W 0 (fun _ => true) true Try.f3.params.toList args.toList ds p := hA0
  rw [Try.params3] at hA hval
  obtain ⟨v0, vs0, d0, ds0, p0, q0, hargs, rfl, rfl, h0, r0⟩ := trodAll_cons hA
  obtain ⟨v1, vs1, d1, ds1, p1, q1, rfl, rfl, rfl, h1, r1⟩ := trodAll_cons r0
  obtain ⟨v2, vs2, d2, ds2, p2, q2, rfl, rfl, rfl, h2, r2⟩ := trodAll_cons r1
  obtain ⟨v3, vs3, d3, ds3, p3, q3, rfl, rfl, rfl, h3, r3⟩ := trodAll_cons r2
  obtain ⟨v4, vs4, d4, ds4, p4, q4, rfl, rfl, rfl, h4, r4⟩ := trodAll_cons r3
  obtain ⟨v5, vs5, d5, ds5, p5, q5, rfl, rfl, rfl, h5, r5⟩ := trodAll_cons r4
  obtain ⟨v6, vs6, d6, ds6, p6, q6, rfl, rfl, rfl, h6, r6⟩ := trodAll_cons r5
  obtain ⟨rfl, rfl, rfl⟩ := trodAll_nil r6
  obtain rfl : args = #[v0, v1, v2, v3, v4, v5, v6] := by cases args; simp_all
  obtain ⟨rfl, rfl⟩ := trodVars_none hV
  have k0 := h0
  have lt0 : ∀ x ∈ p0, x.block < W.heap.size := by obtain ⟨m, hm⟩ := k0; exact DataW.trod_lt m _ _ _ hm
  have o0 := hval 0 22 v0 rfl rfl
  have k1 := h1
  have lt1 : ∀ x ∈ p1, x.block < W.heap.size := by obtain ⟨m, hm⟩ := k1; exact DataW.trod_lt m _ _ _ hm
  have o1 := hval 1 22 v1 rfl rfl
  obtain ⟨a2, rfl, rfl, rfl, w2⟩ := open_int Try.underlying3 (hval 2 3 v2 rfl rfl) h2
  have k3 := h3
  have lt3 : ∀ x ∈ p3, x.block < W.heap.size := by obtain ⟨m, hm⟩ := k3; exact DataW.trod_lt m _ _ _ hm
  have o3 := hval 3 23 v3 rfl rfl
  obtain ⟨a4, rfl, rfl, rfl, w4⟩ := open_int Try.underlying3 (hval 4 3 v4 rfl rfl) h4
  obtain ⟨a5, rfl, rfl, rfl, w5⟩ := open_int Try.underlying3 (hval 5 3 v5 rfl rfl) h5
  obtain ⟨a6, rfl, rfl, rfl, w6⟩ := open_int Try.underlying3 (hval 6 3 v6 rfl rfl) h6
  clear hA0 hval0
  refine (poolRefuses_walk v0 k0 o0 v1 k1 o1 a2 w2 v3 k3 o3 a4 w4 a5 w5 a6 w6 W).mono fun e W' ⟨he, fr⟩ => ?_
  subst he
  have bel := fr.below
  exact ⟨_, rfl, _, _, _, [], _, [], hW', trodAll_mk1 (shut_bool Try.underlying4 _), (trodAll_cons_mk (Below.trod laidOut (by kernel_rfl) (of_decide_eq_true (by kernel_rfl)) k0 bel lt0) (trodAll_cons_mk (Below.trod laidOut (by kernel_rfl) (of_decide_eq_true (by kernel_rfl)) k1 bel lt1) (trodAll_cons_mk (shut_int Try.underlying3 w2) (trodAll_cons_mk (Below.trod laidOut (by kernel_rfl) (of_decide_eq_true (by kernel_rfl)) k3 bel lt3) (trodAll_cons_mk (shut_int Try.underlying3 w4) (trodAll_cons_mk (shut_int Try.underlying3 w5) (trodAll_cons_mk (shut_int Try.underlying3 w6) trodAll_mk0))))))), rfl, bel.frame _, fun h => by cases h⟩

theorem proved : Rows.PoolRefusesSaid :=
  OpenClaim.holds_of_wide 3 Try.f3 rfl rfl rfl rfl rfl rfl rfl ⟨rfl, rfl, rfl, rfl, rfl⟩ rfl rfl rfl rfl rfl (by kernel_rfl) Try.func3 (by kernel_rfl)
    (of_decide_eq_true (by kernel_rfl)) (by unfold Func.isWrapper; first | (rw [if_pos (by decide +kernel)]; kernel_rfl) | (rw [if_neg (by decide +kernel)]; exact ⟨rfl, rfl⟩))
    (fun os started H enc _ => lifted os started H enc)
end poolRefuses
end Go.Proofs.Ythlhjjokodmihaa
