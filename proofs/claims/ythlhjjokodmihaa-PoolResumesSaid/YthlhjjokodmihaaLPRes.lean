/-
  For every input the law PoolResumes returns true: Resume accepts the document's tasks, done and failed, and begins in its state. No condition.
-/
import Derived.Test.YthlhjjokodmihaaRw2
import Derived.Test.YthlhjjokodmihaaRw3
import Derived.ProofKit
import Derived.OpenShut
import Derived.ShutString
import Derived.ChangeOld
import Derived.Below
namespace Go.Proofs.Ythlhjjokodmihaa
open Go.RowKit
set_option linter.unusedSimpArgs false
set_option linter.unusedVariables false
theorem Rd.take {w : World} {p : Option Addr} {n c m : Nat} {cs : List Value} (h : Rd w (.slice p n c) n cs) (hm : m ≤ n) : Rd w (.slice p m c) m (cs.take m) := by
  rcases h with ⟨rfl, rfl, p', c', e⟩ | ⟨ad, c', e, h⟩
  · obtain rfl : m = 0 := by omega
    injection e with e1 e2 e3
    exact .inl ⟨rfl, rfl, p, c, rfl⟩
  · injection e with e1 e2 e3
    subst e1
    refine .inr ⟨ad, c, rfl, fun j u hj => h j u ?_⟩
    rw [List.getElem?_take] at hj
    split at hj
    · exact hj
    · cases hj
theorem boolsV_take (l : List Bool) (n : Nat) : (boolsV l).take n = boolsV (l.take n) := by simp [boolsV, List.map_take]
theorem boolsV_drop (l : List Bool) (n : Nat) : (boolsV l).drop n = boolsV (l.drop n) := by simp [boolsV, List.map_drop]
theorem boolsV_app (l m : List Bool) : boolsV l ++ boolsV m = boolsV (l ++ m) := by simp [boolsV]
theorem over_bools (n : Nat) (cs : List Value) (m : Nat) (h : ∃ l : List Bool, cs = boolsV l) (hm : m ≤ n) : ∃ dl : List Bool, over (boolsV (List.replicate n false)) 0 (cs.take m) = boolsV dl ∧ (m ≤ cs.length → dl.length = n) := by
  obtain ⟨l, rfl⟩ := h
  refine ⟨(l.take m) ++ (List.replicate n false).drop (l.take m).length, ?_, fun h => ?_⟩
  · simp only [over, List.take_zero, List.nil_append, Nat.zero_add]
    rw [boolsV_take, boolsV_len, boolsV_drop, boolsV_app]
  · rw [boolsV_len] at h
    rw [List.length_append, List.length_drop, List.length_replicate, List.length_take]; omega
theorem resumeP_any {w : World} {p q r u : Option Addr} {c d e f n nf nb : Nat} (par own : List Int) (k : Int) (fin bro : List Bool) (hol : own.length = n) (hfl : fin.length = nf) (hbl : bro.length = nb) (hp : Rd w (.slice p par.length c) par.length (ints par)) (hpn : p = none → c = 0) (hq : Rd w (.slice q n d) n (ints own)) (hqn : q = none → d = 0) (hn : n ≤ 1000000)
    (hr : Rd w (.slice r nf e) nf (boolsV fin)) (hu : Rd w (.slice u nb f) nb (boolsV bro)) :
    Calls Try.prog 23 #[.slice p par.length c, .slice q n d, .int .i64 k, .slice r nf e, .slice u nb f] w fun e w' => ∃ v, e = .returned (.tuple #[v, .int .i64 (resumeE par own k fin bro)]) ∧ Fr [] w w' ∧
      (resumeE par own k fin bro = 0 ∧ (∃ A : PA, v = .pointer (some ⟨A.b, 0, none⟩) ∧ PoolIn A (resumeS par own k fin bro) w' ∧ ∀ x ∈ A.S, w.heap.size ≤ x) ∨ resumeE par own k fin bro ≠ 0 ∧ v = .pointer none) := by
  subst hol
  exact resume_anyN par own k fin bro hfl hbl hp hpn hq hqn hn hr hu
theorem resumeQ_any {w : World} {p q r u : Option Addr} {c d e f n nf nb : Nat} (par own : List Int) (k : Int) (fin bro : List Bool) (hol : own.length = n) (hfl : fin.length = nf) (hbl : bro.length = nb) (hp : Rd w (.slice p par.length c) par.length (ints par)) (hq : Rd w (.slice q n d) n (ints own)) (hn : n ≤ 1000000)
    (hr : Rd w (.slice r nf e) nf (boolsV fin)) (hnf : nf ≤ 1000000) (hu : Rd w (.slice u nb f) nb (boolsV bro)) (hnb : nb ≤ 1000000) :
    Calls Try.prog 24 #[.slice p par.length c, .slice q n d, .int .i64 k, .slice r nf e, .slice u nb f] w fun e w' => ∃ v, e = .returned (.tuple #[v, .int .i64 (resumeE par own k fin bro)]) ∧ Fr [] w w' ∧
      (resumeE par own k fin bro = 0 ∧ (∃ D : DA, v = .pointer (some ⟨D.b, 0, none⟩) ∧ DIn D (resumeS par own k fin bro) w' ∧ ∀ x ∈ D.S, w.heap.size ≤ x) ∨ resumeE par own k fin bro ≠ 0) := by
  subst hol
  rw [← resumeD_E]
  exact resume33_anyN par own k fin bro hfl hbl hp hq hn hr hnf hu hnb
open Go.ChangeShapes Go.WideShapes Go.Deep in
theorem arg_boolsV {H : Type} {enc : TypeId × Value → H} {W : World} {base : Nat} {d : DataW H} {p : List MemPlace} (v : Value) (k : DataW.Trod enc Try.prog W 0 (fun _ => true) true 44 v d p) (o : Value.okWide Try.prog W .any base 44 v) : ∃ s : List Bool, SArg W v s.length (boolsV s) := by
  obtain ⟨n, hn⟩ := k
  obtain ⟨a, l, c, rfl⟩ := okWide_slice Try.underlying44 o
  obtain ⟨v', s, h1, h2⟩ := open_boolsS Try.underlying44 Try.underlying4 (by kernel_rfl) hn
  simp only [Value.cells, List.cons.injEq, and_true] at h1
  subst h1
  exact ⟨s, h2⟩
set_option maxHeartbeats 40000000 in
set_option maxRecDepth 100000 in
theorem poolResumes_any (v0 : Value) (raw : List Int) (n0 k0 : Int) (v3 v4 : Value) (fin0 bro0 : List Bool) (fit : Bool) (v6 : Value) (l : List (Int × Int)) (w : World) (hr : SArg w v0 raw.length (u64s raw)) (hb : ∀ x ∈ raw, 0 ≤ x ∧ x < 18446744073709551616)
    (hA3 : SArg w v3 fin0.length (boolsV fin0)) (hA4 : SArg w v4 bro0.length (boolsV bro0)) (hA : SArg w v6 l.length (l.flatMap pairV)) :
    Calls Try.prog 7 #[v0, .int .i64 n0, .int .i64 k0, v3, v4, .bool fit, v6] w fun e w' => e = .returned (.bool true) ∧ Fr [] w w' := by
  have H := Hp.start [] w
  obtain ⟨p, c, rfl, hp, hlc, hcm, hrd⟩ := hA
  have hrd0 := hrd w (Fr.refl _ _)
  obtain ⟨p3, c3, rfl, hp3, hlc3, hcm3, hrd3⟩ := hA3
  have Hrd3 := hid (hrd3 w (Fr.refl _ _))
  obtain ⟨p4, c4, rfl, hp4, hlc4, hcm4, hrd4⟩ := hA4
  have Hrd4 := hid (hrd4 w (Fr.refl _ _))
  clear hrd hrd3 hrd4
  by_cases h12 : 12 < l.length ∨ 12 < fin0.length ∨ 12 < bro0.length
  · have Hrd := hid hrd0
    have Hr := hid hr
    have Hb := hid hb
    clear hrd0 hr hb hp hp3 hp4
    by_cases h1 : 12 < l.length
    · clear h12
      go_enter Try.func7, Try.ntmps7
      go_wp2_with (first | ((first | (refine is_load rfl ?_; refine wl_ev rfl (by first | exact c_ld H rfl rfl | exact c_ld0 H rfl rfl | exact c_ldz H rfl rfl | exact c_ldr H rfl rfl | exact c_ln H rfl rfl | exact c_lnp H rfl rfl | exact c_lnz H rfl rfl | exact c_lnr H rfl rfl) ?_) | (refine is_cmp rfl rfl ?_; first | (refine wl_ev rfl (by first | exact ev_cmpT rfl rfl rfl rfl | exact ev_cmpF rfl rfl rfl rfl | exact c_bNe rfl rfl rfl Try.underlying4 | exact c_bEq rfl rfl rfl Try.underlying4 | exact c_peq rfl rfl | exact c_pne rfl rfl) ?_) | (refine wl_cmp rfl rfl rfl rfl rfl (fun h => ?_) (fun h => ?_) <;> (simp only [cmpP] at h))) | (refine is_indexAddr rfl ?_; refine wl_ev rfl (c_ix rfl rfl rfl) ?_)) <;> (simp only [nrm, ↓reduceIte, Nat.reduceAdd])) | ((first | (refine is_make rfl ?_; refine wl_rw rfl (fun K hK => c_mk H rfl rfl rfl (h := (fun g w1 hg hf H1 => hK _ _ ?_)))) | (refine is_store rfl ?_; first | (refine wl_rw rfl (fun K hK => c_st H rfl rfl rfl (h := (fun w1 hf H1 => hK _ _ ?_)))) | (refine wl_rw rfl (fun K hK => c_stc H rfl rfl (h := (fun w1 hf H1 => hK _ _ ?_)))))); (clear hK K); (clear H; have H := H1; clear H1; (try dsimp only at H); (try clear hf)); (simp only [nrm, ↓reduceIte, Nat.reduceAdd])))
      (refine Calls.mono (awake33_any _) ?_; rintro e w1 ⟨rfl, hF⟩)
      go_wp2_with (first | ((first | (refine is_load rfl ?_; refine wl_ev rfl (by first | exact c_ld H rfl rfl | exact c_ld0 H rfl rfl | exact c_ldz H rfl rfl | exact c_ldr H rfl rfl | exact c_ln H rfl rfl | exact c_lnp H rfl rfl | exact c_lnz H rfl rfl | exact c_lnr H rfl rfl) ?_) | (refine is_cmp rfl rfl ?_; first | (refine wl_ev rfl (by first | exact ev_cmpT rfl rfl rfl rfl | exact ev_cmpF rfl rfl rfl rfl | exact c_bNe rfl rfl rfl Try.underlying4 | exact c_bEq rfl rfl rfl Try.underlying4 | exact c_peq rfl rfl | exact c_pne rfl rfl) ?_) | (refine wl_cmp rfl rfl rfl rfl rfl (fun h => ?_) (fun h => ?_) <;> (simp only [cmpP] at h))) | (refine is_indexAddr rfl ?_; refine wl_ev rfl (c_ix rfl rfl rfl) ?_)) <;> (simp only [nrm, ↓reduceIte, Nat.reduceAdd])) | ((first | (refine is_make rfl ?_; refine wl_rw rfl (fun K hK => c_mk H rfl rfl rfl (h := (fun g w1 hg hf H1 => hK _ _ ?_)))) | (refine is_store rfl ?_; first | (refine wl_rw rfl (fun K hK => c_st H rfl rfl rfl (h := (fun w1 hf H1 => hK _ _ ?_)))) | (refine wl_rw rfl (fun K hK => c_stc H rfl rfl (h := (fun w1 hf H1 => hK _ _ ?_)))))); (clear hK K); (clear H; have H := H1; clear H1; (try dsimp only at H); (try clear hf)); (simp only [nrm, ↓reduceIte, Nat.reduceAdd])))
      (refine bodyPost_ret (results_tmp rfl _ _ _) rfl ?_)
      exact ⟨rfl, hF⟩
    · by_cases h2 : 12 < fin0.length
      · clear h12
        go_enter Try.func7, Try.ntmps7
        go_wp2_with (first | ((first | (refine is_load rfl ?_; refine wl_ev rfl (by first | exact c_ld H rfl rfl | exact c_ld0 H rfl rfl | exact c_ldz H rfl rfl | exact c_ldr H rfl rfl | exact c_ln H rfl rfl | exact c_lnp H rfl rfl | exact c_lnz H rfl rfl | exact c_lnr H rfl rfl) ?_) | (refine is_cmp rfl rfl ?_; first | (refine wl_ev rfl (by first | exact ev_cmpT rfl rfl rfl rfl | exact ev_cmpF rfl rfl rfl rfl | exact c_bNe rfl rfl rfl Try.underlying4 | exact c_bEq rfl rfl rfl Try.underlying4 | exact c_peq rfl rfl | exact c_pne rfl rfl) ?_) | (refine wl_cmp rfl rfl rfl rfl rfl (fun h => ?_) (fun h => ?_) <;> (simp only [cmpP] at h))) | (refine is_indexAddr rfl ?_; refine wl_ev rfl (c_ix rfl rfl rfl) ?_)) <;> (simp only [nrm, ↓reduceIte, Nat.reduceAdd])) | ((first | (refine is_make rfl ?_; refine wl_rw rfl (fun K hK => c_mk H rfl rfl rfl (h := (fun g w1 hg hf H1 => hK _ _ ?_)))) | (refine is_store rfl ?_; first | (refine wl_rw rfl (fun K hK => c_st H rfl rfl rfl (h := (fun w1 hf H1 => hK _ _ ?_)))) | (refine wl_rw rfl (fun K hK => c_stc H rfl rfl (h := (fun w1 hf H1 => hK _ _ ?_)))))); (clear hK K); (clear H; have H := H1; clear H1; (try dsimp only at H); (try clear hf)); (simp only [nrm, ↓reduceIte, Nat.reduceAdd])))
        (refine Calls.mono (awake33_any _) ?_; rintro e w1 ⟨rfl, hF⟩)
        go_wp2_with (first | ((first | (refine is_load rfl ?_; refine wl_ev rfl (by first | exact c_ld H rfl rfl | exact c_ld0 H rfl rfl | exact c_ldz H rfl rfl | exact c_ldr H rfl rfl | exact c_ln H rfl rfl | exact c_lnp H rfl rfl | exact c_lnz H rfl rfl | exact c_lnr H rfl rfl) ?_) | (refine is_cmp rfl rfl ?_; first | (refine wl_ev rfl (by first | exact ev_cmpT rfl rfl rfl rfl | exact ev_cmpF rfl rfl rfl rfl | exact c_bNe rfl rfl rfl Try.underlying4 | exact c_bEq rfl rfl rfl Try.underlying4 | exact c_peq rfl rfl | exact c_pne rfl rfl) ?_) | (refine wl_cmp rfl rfl rfl rfl rfl (fun h => ?_) (fun h => ?_) <;> (simp only [cmpP] at h))) | (refine is_indexAddr rfl ?_; refine wl_ev rfl (c_ix rfl rfl rfl) ?_)) <;> (simp only [nrm, ↓reduceIte, Nat.reduceAdd])) | ((first | (refine is_make rfl ?_; refine wl_rw rfl (fun K hK => c_mk H rfl rfl rfl (h := (fun g w1 hg hf H1 => hK _ _ ?_)))) | (refine is_store rfl ?_; first | (refine wl_rw rfl (fun K hK => c_st H rfl rfl rfl (h := (fun w1 hf H1 => hK _ _ ?_)))) | (refine wl_rw rfl (fun K hK => c_stc H rfl rfl (h := (fun w1 hf H1 => hK _ _ ?_)))))); (clear hK K); (clear H; have H := H1; clear H1; (try dsimp only at H); (try clear hf)); (simp only [nrm, ↓reduceIte, Nat.reduceAdd])))
        (refine bodyPost_ret (results_tmp rfl _ _ _) rfl ?_)
        exact ⟨rfl, hF⟩
      · have h3 : 12 < bro0.length := by omega
        clear h12
        go_enter Try.func7, Try.ntmps7
        go_wp2_with (first | ((first | (refine is_load rfl ?_; refine wl_ev rfl (by first | exact c_ld H rfl rfl | exact c_ld0 H rfl rfl | exact c_ldz H rfl rfl | exact c_ldr H rfl rfl | exact c_ln H rfl rfl | exact c_lnp H rfl rfl | exact c_lnz H rfl rfl | exact c_lnr H rfl rfl) ?_) | (refine is_cmp rfl rfl ?_; first | (refine wl_ev rfl (by first | exact ev_cmpT rfl rfl rfl rfl | exact ev_cmpF rfl rfl rfl rfl | exact c_bNe rfl rfl rfl Try.underlying4 | exact c_bEq rfl rfl rfl Try.underlying4 | exact c_peq rfl rfl | exact c_pne rfl rfl) ?_) | (refine wl_cmp rfl rfl rfl rfl rfl (fun h => ?_) (fun h => ?_) <;> (simp only [cmpP] at h))) | (refine is_indexAddr rfl ?_; refine wl_ev rfl (c_ix rfl rfl rfl) ?_)) <;> (simp only [nrm, ↓reduceIte, Nat.reduceAdd])) | ((first | (refine is_make rfl ?_; refine wl_rw rfl (fun K hK => c_mk H rfl rfl rfl (h := (fun g w1 hg hf H1 => hK _ _ ?_)))) | (refine is_store rfl ?_; first | (refine wl_rw rfl (fun K hK => c_st H rfl rfl rfl (h := (fun w1 hf H1 => hK _ _ ?_)))) | (refine wl_rw rfl (fun K hK => c_stc H rfl rfl (h := (fun w1 hf H1 => hK _ _ ?_)))))); (clear hK K); (clear H; have H := H1; clear H1; (try dsimp only at H); (try clear hf)); (simp only [nrm, ↓reduceIte, Nat.reduceAdd])))
        (refine Calls.mono (awake33_any _) ?_; rintro e w1 ⟨rfl, hF⟩)
        go_wp2_with (first | ((first | (refine is_load rfl ?_; refine wl_ev rfl (by first | exact c_ld H rfl rfl | exact c_ld0 H rfl rfl | exact c_ldz H rfl rfl | exact c_ldr H rfl rfl | exact c_ln H rfl rfl | exact c_lnp H rfl rfl | exact c_lnz H rfl rfl | exact c_lnr H rfl rfl) ?_) | (refine is_cmp rfl rfl ?_; first | (refine wl_ev rfl (by first | exact ev_cmpT rfl rfl rfl rfl | exact ev_cmpF rfl rfl rfl rfl | exact c_bNe rfl rfl rfl Try.underlying4 | exact c_bEq rfl rfl rfl Try.underlying4 | exact c_peq rfl rfl | exact c_pne rfl rfl) ?_) | (refine wl_cmp rfl rfl rfl rfl rfl (fun h => ?_) (fun h => ?_) <;> (simp only [cmpP] at h))) | (refine is_indexAddr rfl ?_; refine wl_ev rfl (c_ix rfl rfl rfl) ?_)) <;> (simp only [nrm, ↓reduceIte, Nat.reduceAdd])) | ((first | (refine is_make rfl ?_; refine wl_rw rfl (fun K hK => c_mk H rfl rfl rfl (h := (fun g w1 hg hf H1 => hK _ _ ?_)))) | (refine is_store rfl ?_; first | (refine wl_rw rfl (fun K hK => c_st H rfl rfl rfl (h := (fun w1 hf H1 => hK _ _ ?_)))) | (refine wl_rw rfl (fun K hK => c_stc H rfl rfl (h := (fun w1 hf H1 => hK _ _ ?_)))))); (clear hK K); (clear H; have H := H1; clear H1; (try dsimp only at H); (try clear hf)); (simp only [nrm, ↓reduceIte, Nat.reduceAdd])))
        (refine bodyPost_ret (results_tmp rfl _ _ _) rfl ?_)
        exact ⟨rfl, hF⟩
  have h1 : l.length ≤ 12 := by omega
  have h2 : fin0.length ≤ 12 := by omega
  have h3 : bro0.length ≤ 12 := by omega
  have Hrd := hid hrd0
  have Hr := hid hr
  have Hb := hid hb
  clear hrd0 hr hb hp hp3 hp4 h12
  go_enter Try.func7, Try.ntmps7
  go_wp2_with (first | ((first | (refine is_load rfl ?_; refine wl_ev rfl (by first | exact c_ld H rfl rfl | exact c_ld0 H rfl rfl | exact c_ldz H rfl rfl | exact c_ldr H rfl rfl | exact c_ln H rfl rfl | exact c_lnp H rfl rfl | exact c_lnz H rfl rfl | exact c_lnr H rfl rfl) ?_) | (refine is_cmp rfl rfl ?_; first | (refine wl_ev rfl (by first | exact ev_cmpT rfl rfl rfl rfl | exact ev_cmpF rfl rfl rfl rfl | exact c_bNe rfl rfl rfl Try.underlying4 | exact c_bEq rfl rfl rfl Try.underlying4 | exact c_peq rfl rfl | exact c_pne rfl rfl) ?_) | (refine wl_cmp rfl rfl rfl rfl rfl (fun h => ?_) (fun h => ?_) <;> (simp only [cmpP] at h))) | (refine is_indexAddr rfl ?_; refine wl_ev rfl (c_ix rfl rfl rfl) ?_)) <;> (simp only [nrm, ↓reduceIte, Nat.reduceAdd])) | ((first | (refine is_make rfl ?_; refine wl_rw rfl (fun K hK => c_mk H rfl rfl rfl (h := (fun g w1 hg hf H1 => hK _ _ ?_)))) | (refine is_store rfl ?_; first | (refine wl_rw rfl (fun K hK => c_st H rfl rfl rfl (h := (fun w1 hf H1 => hK _ _ ?_)))) | (refine wl_rw rfl (fun K hK => c_stc H rfl rfl (h := (fun w1 hf H1 => hK _ _ ?_)))))); (clear hK K); (clear H; have H := H1; clear H1; (try dsimp only at H); (try clear hf)); (simp only [nrm, ↓reduceIte, Nat.reduceAdd])))
  refine Calls.mono (forest_any raw n0 k0 Hr.out Hb.out) ?_
  rintro e w1 ⟨par, own, k, g1, c1, g2, c2, pad1, pad2, rfl, hF, HF, hol, hpl, hk1, hk4, hck⟩
  clear H hF
  have H := HF
  clear HF
  have Hck := hid hck
  have Hol := hid hol
  clear hck hol
  go_upto_if 49 with (first | ((first | (refine is_load rfl ?_; refine wl_ev rfl (by first | exact c_ld H rfl rfl | exact c_ld0 H rfl rfl | exact c_ldz H rfl rfl | exact c_ldr H rfl rfl | exact c_ln H rfl rfl | exact c_lnp H rfl rfl | exact c_lnz H rfl rfl | exact c_lnr H rfl rfl) ?_) | (refine is_cmp rfl rfl ?_; first | (refine wl_ev rfl (by first | exact ev_cmpT rfl rfl rfl rfl | exact ev_cmpF rfl rfl rfl rfl | exact c_bNe rfl rfl rfl Try.underlying4 | exact c_bEq rfl rfl rfl Try.underlying4 | exact c_peq rfl rfl | exact c_pne rfl rfl) ?_) | (refine wl_cmp rfl rfl rfl rfl rfl (fun h => ?_) (fun h => ?_) <;> (simp only [cmpP] at h))) | (refine is_indexAddr rfl ?_; refine wl_ev rfl (c_ix rfl rfl rfl) ?_)) <;> (simp only [nrm, ↓reduceIte, Nat.reduceAdd])) | ((first | (refine is_make rfl ?_; refine wl_rw rfl (fun K hK => c_mk H rfl rfl rfl (h := (fun g w1 hg hf H1 => hK _ _ ?_)))) | (refine is_store rfl ?_; first | (refine wl_rw rfl (fun K hK => c_st H rfl rfl rfl (h := (fun w1 hf H1 => hK _ _ ?_)))) | (refine wl_rw rfl (fun K hK => c_stc H rfl rfl (h := (fun w1 hf H1 => hK _ _ ?_)))))); (clear hK K); (clear H; have H := H1; clear H1; (try dsimp only at H); (try clear hf)); (simp only [nrm, ↓reduceIte, Nat.reduceAdd])))
  go_cut [3, 4] (fun s3 s4 wx => ∃ (q3 q4 : Option Addr) (n3 n4 d3 d4 : Nat) (fin bro : List Bool), s3 = .slice q3 n3 d3 ∧ s4 = .slice q4 n4 d4 ∧ n3 ≤ 12 ∧ n4 ≤ 12 ∧ Hid (fin.length = n3) ∧ Hid (bro.length = n4) ∧ Hid (Rd wx (.slice q3 n3 d3) n3 (boolsV fin)) ∧ Hid (Rd wx (.slice q4 n4 d4) n4 (boolsV bro)) ∧ Hp [] w wx [.blk g1 (ints par ++ pad1) 3, .blk g2 (ints own ++ pad2) 3])
  case first =>
    cases fit
    · go_wp2_with (first | ((first | (refine is_load rfl ?_; refine wl_ev rfl (by first | exact c_ld H rfl rfl | exact c_ld0 H rfl rfl | exact c_ldz H rfl rfl | exact c_ldr H rfl rfl | exact c_ln H rfl rfl | exact c_lnp H rfl rfl | exact c_lnz H rfl rfl | exact c_lnr H rfl rfl) ?_) | (refine is_cmp rfl rfl ?_; first | (refine wl_ev rfl (by first | exact ev_cmpT rfl rfl rfl rfl | exact ev_cmpF rfl rfl rfl rfl | exact c_bNe rfl rfl rfl Try.underlying4 | exact c_bEq rfl rfl rfl Try.underlying4 | exact c_peq rfl rfl | exact c_pne rfl rfl) ?_) | (refine wl_cmp rfl rfl rfl rfl rfl (fun h => ?_) (fun h => ?_) <;> (simp only [cmpP] at h))) | (refine is_indexAddr rfl ?_; refine wl_ev rfl (c_ix rfl rfl rfl) ?_)) <;> (simp only [nrm, ↓reduceIte, Nat.reduceAdd])) | ((first | (refine is_make rfl ?_; refine wl_rw rfl (fun K hK => c_mk H rfl rfl rfl (h := (fun g w1 hg hf H1 => hK _ _ ?_)))) | (refine is_store rfl ?_; first | (refine wl_rw rfl (fun K hK => c_st H rfl rfl rfl (h := (fun w1 hf H1 => hK _ _ ?_)))) | (refine wl_rw rfl (fun K hK => c_stc H rfl rfl (h := (fun w1 hf H1 => hK _ _ ?_)))))); (clear hK K); (clear H; have H := H1; clear H1; (try dsimp only at H); (try clear hf)); (simp only [nrm, ↓reduceIte, Nat.reduceAdd])))
      go_meet
      case rel => exact ⟨p3, p4, fin0.length, bro0.length, c3, c4, fin0, bro0, rfl, rfl, h2, h3, hid rfl, hid rfl, hid (Hrd3.out.fr H.fr (by simp)), hid (Hrd4.out.fr H.fr (by simp)), H⟩
    · go_wp2_with (first | ((first | (refine is_load rfl ?_; refine wl_ev rfl (by first | exact c_ld H rfl rfl | exact c_ld0 H rfl rfl | exact c_ldz H rfl rfl | exact c_ldr H rfl rfl | exact c_ln H rfl rfl | exact c_lnp H rfl rfl | exact c_lnz H rfl rfl | exact c_lnr H rfl rfl) ?_) | (refine is_cmp rfl rfl ?_; first | (refine wl_ev rfl (by first | exact ev_cmpT rfl rfl rfl rfl | exact ev_cmpF rfl rfl rfl rfl | exact c_bNe rfl rfl rfl Try.underlying4 | exact c_bEq rfl rfl rfl Try.underlying4 | exact c_peq rfl rfl | exact c_pne rfl rfl) ?_) | (refine wl_cmp rfl rfl rfl rfl rfl (fun h => ?_) (fun h => ?_) <;> (simp only [cmpP] at h))) | (refine is_indexAddr rfl ?_; refine wl_ev rfl (c_ix rfl rfl rfl) ?_)) <;> (simp only [nrm, ↓reduceIte, Nat.reduceAdd])) | ((first | (refine is_make rfl ?_; refine wl_rw rfl (fun K hK => c_mk H rfl rfl rfl (h := (fun g w1 hg hf H1 => hK _ _ ?_)))) | (refine is_store rfl ?_; first | (refine wl_rw rfl (fun K hK => c_st H rfl rfl rfl (h := (fun w1 hf H1 => hK _ _ ?_)))) | (refine wl_rw rfl (fun K hK => c_stc H rfl rfl (h := (fun w1 hf H1 => hK _ _ ?_)))))); (clear hK K); (clear H; have H := H1; clear H1; (try dsimp only at H); (try clear hf)); (simp only [nrm, ↓reduceIte, Nat.reduceAdd])))
      (refine wp_plan H (List.Sublist.refl _) 8 (.st 0 (.st 1 (.st 3 (.st 4 (.ld2 2 (.st 6 (.ld 5 (.st 7 .done))) 5 (.ld 2 (.st 6 (.st 7 .done)))))))) rfl (by kernel_rfl) (by kernel_rfl) (by intro c a d v w h; cases d <;> exact h) (fun w1 H1 => ?_); (clear H; have H := H1; clear H1))
      (refine pl_ev rfl rfl (fun w H => ev_moveT rfl rfl) ?_; (simp only [nrm, ↓reduceIte, Nat.reduceAdd]))
      (refine pl_ev rfl rfl (fun w H => by first | exact c_len rfl rfl | exact ev_strLen rfl rfl) ?_; (simp only [nrm, ↓reduceIte, Nat.reduceAdd]))
      (refine pl_ev rfl rfl (fun w H => ev_moveT rfl rfl) ?_; (simp only [nrm, ↓reduceIte, Nat.reduceAdd]))
      (refine pl_ev rfl rfl (fun w H => by first | exact c_len rfl rfl | exact ev_strLen rfl rfl) ?_; (simp only [nrm, ↓reduceIte, Nat.reduceAdd]))
      (refine pl_ld2 ?_ ?_)
      (refine pl_rw rfl rfl (fun K hK => c_mk H rfl rfl rfl (h := fun gd w1 hg hf H1 => hK _ _ (fun hne => by first | exact absurd rfl hne | exact trivial | exact H1.sub (by repeat first | exact List.Sublist.refl _ | exact List.nil_sublist _ | apply List.Sublist.cons_cons | apply List.Sublist.cons)) ?_)); (clear hK K); (clear H; have H := H1; clear H1; (try dsimp only at H); (try clear hf)); (simp only [nrm, ↓reduceIte, Nat.reduceAdd]))
      (refine pl_ev rfl rfl (fun w H => ev_assignT rfl rfl) ?_; (simp only [nrm, ↓reduceIte, Nat.reduceAdd]))
      (refine pl_rw rfl rfl (fun K hK => c_mk H rfl rfl rfl (h := fun gf w1 hg hf H1 => hK _ _ (fun hne => by first | exact absurd rfl hne | exact trivial | exact H1.sub (by repeat first | exact List.Sublist.refl _ | exact List.nil_sublist _ | apply List.Sublist.cons_cons | apply List.Sublist.cons)) ?_)); (clear hK K); (clear H; have H := H1; clear H1; (try dsimp only at H); (try clear hf)); (simp only [nrm, ↓reduceIte, Nat.reduceAdd]))
      (refine pl_ev rfl rfl (fun w H => ev_assignT rfl rfl) ?_; (simp only [nrm, ↓reduceIte, Nat.reduceAdd]))
      (refine pl_done ?_)
      rotate_left
      (refine pl_rw rfl rfl (fun K hK => c_mk H rfl rfl rfl (h := fun gf w1 hg hf H1 => hK _ _ (fun hne => by first | exact absurd rfl hne | exact trivial | exact H1.sub (by repeat first | exact List.Sublist.refl _ | exact List.nil_sublist _ | apply List.Sublist.cons_cons | apply List.Sublist.cons)) ?_)); (clear hK K); (clear H; have H := H1; clear H1; (try dsimp only at H); (try clear hf)); (simp only [nrm, ↓reduceIte, Nat.reduceAdd]))
      (refine pl_rw rfl rfl (fun K hK => c_mk H rfl rfl rfl (h := fun gd w1 hg hf H1 => hK _ _ (fun hne => by first | exact absurd rfl hne | exact trivial | exact H1.sub (by repeat first | exact List.Sublist.refl _ | exact List.nil_sublist _ | apply List.Sublist.cons_cons | apply List.Sublist.cons)) ?_)); (clear hK K); (clear H; have H := H1; clear H1; (try dsimp only at H); (try clear hf)); (simp only [nrm, ↓reduceIte, Nat.reduceAdd]))
      (refine pl_ev rfl rfl (fun w H => ev_assignT rfl rfl) ?_; (simp only [nrm, ↓reduceIte, Nat.reduceAdd]))
      (refine pl_ev rfl rfl (fun w H => ev_assignT rfl rfl) ?_; (simp only [nrm, ↓reduceIte, Nat.reduceAdd]))
      (refine pl_done ?_)
      rotate_left
      all_goals
        simp only [Int.toNat_natCast, zeros_bools] at H
        obtain ⟨m3, hm3⟩ : ∃ m3, min fin0.length par.length = m3 := ⟨_, rfl⟩
        obtain ⟨m4, hm4⟩ : ∃ m4, min bro0.length par.length = m4 := ⟨_, rfl⟩
        have hm3' : m3 ≤ fin0.length := by omega
        have hm4' : m4 ≤ bro0.length := by omega
        have hm3n : m3 ≤ par.length := by omega
        have hm4n : m4 ≤ par.length := by omega
        have Hm3 := hid hm3
        have Hm4 := hid hm4
        clear hm3 hm4
        go_wp2_with (first | ((first | (refine is_load rfl ?_; refine wl_ev rfl (by first | exact c_ld H rfl rfl | exact c_ld0 H rfl rfl | exact c_ldz H rfl rfl | exact c_ldr H rfl rfl | exact c_ln H rfl rfl | exact c_lnp H rfl rfl | exact c_lnz H rfl rfl | exact c_lnr H rfl rfl) ?_) | (refine is_cmp rfl rfl ?_; first | (refine wl_ev rfl (by first | exact ev_cmpT rfl rfl rfl rfl | exact ev_cmpF rfl rfl rfl rfl | exact c_bNe rfl rfl rfl Try.underlying4 | exact c_bEq rfl rfl rfl Try.underlying4 | exact c_peq rfl rfl | exact c_pne rfl rfl) ?_) | (refine wl_cmp rfl rfl rfl rfl rfl (fun h => ?_) (fun h => ?_) <;> (simp only [cmpP] at h))) | (refine is_indexAddr rfl ?_; refine wl_ev rfl (c_ix rfl rfl rfl) ?_)) <;> (simp only [nrm, ↓reduceIte, Nat.reduceAdd])) | ((first | (refine is_make rfl ?_; refine wl_rw rfl (fun K hK => c_mk H rfl rfl rfl (h := (fun g w1 hg hf H1 => hK _ _ ?_)))) | (refine is_store rfl ?_; first | (refine wl_rw rfl (fun K hK => c_st H rfl rfl rfl (h := (fun w1 hf H1 => hK _ _ ?_)))) | (refine wl_rw rfl (fun K hK => c_stc H rfl rfl (h := (fun w1 hf H1 => hK _ _ ?_)))))); (clear hK K); (clear H; have H := H1; clear H1; (try dsimp only at H); (try clear hf)); (simp only [nrm, ↓reduceIte, Nat.reduceAdd])) | (refine is_blt (b := .copy) rfl ?_; (first | (refine wl_rw rfl (fun K hK => c_cp H rfl rfl rfl Hm3.out.symm ((Hrd3.out.fr H.fr (by simp)).take hm3') (by rw [List.length_take, boolsV_len, Nat.mul_one]; omega) (fun u hu => boolsV_one _ u (List.mem_of_mem_take hu)) (by rw [List.length_take, boolsV_len, boolsV_len, List.length_replicate]; omega) (fun w1 hf H1 => hK _ _ ?_))) | go_loud (refine wl_rw rfl (fun K hK => c_cp H rfl rfl rfl Hm4.out.symm ((Hrd4.out.fr H.fr (by simp)).take hm4') (by rw [List.length_take, boolsV_len, Nat.mul_one]; omega) (fun u hu => boolsV_one _ u (List.mem_of_mem_take hu)) (by rw [List.length_take, boolsV_len, boolsV_len, List.length_replicate]; omega) (fun w1 hf H1 => hK _ _ ?_)))); (clear hK K); (clear H; have H := H1; clear H1; (try dsimp only at H); (try clear hf)); (simp only [nrm, ↓reduceIte, Nat.reduceAdd])))
        obtain ⟨dl0, hd1, hd2⟩ := over_bools par.length (boolsV fin0) m3 ⟨fin0, rfl⟩ hm3n
        obtain ⟨fl0, hf1, hf2⟩ := over_bools par.length (boolsV bro0) m4 ⟨bro0, rfl⟩ hm4n
        rw [hd1, hf1] at H
        have Hd2 := hid (hd2 (by rw [boolsV_len]; exact hm3'))
        have Hf2 := hid (hf2 (by rw [boolsV_len]; exact hm4'))
        clear hd1 hf1 hd2 hf2
        go_loopw [20] (fun s20 wr => ∃ (i : Nat) (dl fl : List Bool), i ≤ par.length ∧ Hid (dl.length = par.length) ∧ Hid (fl.length = par.length) ∧ s20 = .int .i64 i ∧ Hp [] w wr [.blk gf (boolsV fl) 4, .blk gd (boolsV dl) 4, .blk g1 (ints par ++ pad1) 3, .blk g2 (ints own ++ pad2) 3]) (fun u _ => par.length - (intOf u).toNat)
        case atStart => exact ⟨0, dl0, fl0, Nat.zero_le _, Hd2, Hf2, rfl, by (refine Hp.arr H ?_; repeat (first | exact Pm.nil _ | (apply Pm.cons; · (repeat first | exact Rm.here _ | apply Rm.there))))⟩
        case round =>
          clear H
          obtain ⟨i, dl, fl, hi, Hdl, Hfl, rfl, H⟩ := hrel
          by_cases hin : i < par.length
          · go_wp2_with (first | ((first | (refine is_load rfl ?_; refine wl_ev rfl (by first | exact c_ld H rfl rfl | exact c_ld0 H rfl rfl | exact c_ldz H rfl rfl | exact c_ldr H rfl rfl | exact c_ln H rfl rfl | exact c_lnp H rfl rfl | exact c_lnz H rfl rfl | exact c_lnr H rfl rfl) ?_) | (refine is_cmp rfl rfl ?_; first | (refine wl_ev rfl (by first | exact ev_cmpT rfl rfl rfl rfl | exact ev_cmpF rfl rfl rfl rfl | exact c_bNe rfl rfl rfl Try.underlying4 | exact c_bEq rfl rfl rfl Try.underlying4 | exact c_peq rfl rfl | exact c_pne rfl rfl) ?_) | (refine wl_cmp rfl rfl rfl rfl rfl (fun h => ?_) (fun h => ?_) <;> (simp only [cmpP] at h))) | (refine is_indexAddr rfl ?_; refine wl_ev rfl (c_ix rfl rfl rfl) ?_)) <;> (simp only [nrm, ↓reduceIte, Nat.reduceAdd])) | ((first | (refine is_make rfl ?_; refine wl_rw rfl (fun K hK => c_mk H rfl rfl rfl (h := (fun g w1 hg hf H1 => hK _ _ ?_)))) | (refine is_store rfl ?_; first | (refine wl_rw rfl (fun K hK => c_st H rfl rfl rfl (h := (fun w1 hf H1 => hK _ _ ?_)))) | (refine wl_rw rfl (fun K hK => c_stc H rfl rfl (h := (fun w1 hf H1 => hK _ _ ?_)))))); (clear hK K); (clear H; have H := H1; clear H1; (try dsimp only at H); (try clear hf)); (simp only [nrm, ↓reduceIte, Nat.reduceAdd])))
            go_loopw [21] (fun s21 wr => ∃ (j : Nat) (dl fl : List Bool), j ≤ i ∧ Hid (dl.length = par.length) ∧ Hid (fl.length = par.length) ∧ s21 = .int .i64 j ∧ Hp [] w wr [.blk gf (boolsV fl) 4, .blk gd (boolsV dl) 4, .blk g1 (ints par ++ pad1) 3, .blk g2 (ints own ++ pad2) 3]) (fun u _ => i - (intOf u).toNat)
            case atStart => exact ⟨0, dl, fl, Nat.zero_le _, Hdl, Hfl, rfl, H⟩
            case round =>
              clear H Hdl Hfl
              clear dl fl
              obtain ⟨j, dl, fl, hj, Hdl, Hfl, rfl, H⟩ := hrel
              have hdi : i < dl.length := by rw [Hdl.out]; exact hin
              have hfi : i < fl.length := by rw [Hfl.out]; exact hin
              by_cases hji : j < i
              · obtain ⟨pj, hpj⟩ : ∃ x, par[j]? = some x := ⟨_, List.getElem?_eq_getElem (by omega)⟩
                obtain ⟨dj, hdj⟩ : ∃ x, dl[j]? = some x := ⟨_, List.getElem?_eq_getElem (by rw [Hdl.out]; omega)⟩
                have hpv := pre_at (pad := pad1) (ints_at hpj)
                have hdv := boolsV_at hdj
                clear hpj hdj
                by_cases he : pj = i
                · subst he
                  cases dj
                  · go_wp2_with (first | ((first | (refine is_load rfl ?_; refine wl_ev rfl (by first | exact c_ld H rfl rfl | exact c_ld0 H rfl rfl | exact c_ldz H rfl rfl | exact c_ldr H rfl rfl | exact c_ln H rfl rfl | exact c_lnp H rfl rfl | exact c_lnz H rfl rfl | exact c_lnr H rfl rfl) ?_) | (refine is_cmp rfl rfl ?_; first | (refine wl_ev rfl (by first | exact ev_cmpT rfl rfl rfl rfl | exact ev_cmpF rfl rfl rfl rfl | exact c_bNe rfl rfl rfl Try.underlying4 | exact c_bEq rfl rfl rfl Try.underlying4 | exact c_peq rfl rfl | exact c_pne rfl rfl) ?_) | (refine wl_cmp rfl rfl rfl rfl rfl (fun h => ?_) (fun h => ?_) <;> (simp only [cmpP] at h))) | (refine is_indexAddr rfl ?_; refine wl_ev rfl (c_ix rfl rfl rfl) ?_)) <;> (simp only [nrm, ↓reduceIte, Nat.reduceAdd])) | ((first | (refine is_make rfl ?_; refine wl_rw rfl (fun K hK => c_mk H rfl rfl rfl (h := (fun g w1 hg hf H1 => hK _ _ ?_)))) | (refine is_store rfl ?_; first | (refine wl_rw rfl (fun K hK => c_st H rfl rfl rfl (h := (fun w1 hf H1 => hK _ _ ?_)))) | (refine wl_rw rfl (fun K hK => c_stc H rfl rfl (h := (fun w1 hf H1 => hK _ _ ?_)))))); (clear hK K); (clear H; have H := H1; clear H1; (try dsimp only at H); (try clear hf)); (simp only [nrm, ↓reduceIte, Nat.reduceAdd])))
                    rw [boolsV_set, boolsV_set] at H
                    go_roundw
                    case rel => exact ⟨j + 1, dl.set i false, fl.set i false, by omega, hid (by rw [List.length_set]; exact Hdl.out), hid (by rw [List.length_set]; exact Hfl.out), by go_num, H⟩
                    case measure => simp [intOf]; omega
                  · go_wp2_with (first | ((first | (refine is_load rfl ?_; refine wl_ev rfl (by first | exact c_ld H rfl rfl | exact c_ld0 H rfl rfl | exact c_ldz H rfl rfl | exact c_ldr H rfl rfl | exact c_ln H rfl rfl | exact c_lnp H rfl rfl | exact c_lnz H rfl rfl | exact c_lnr H rfl rfl) ?_) | (refine is_cmp rfl rfl ?_; first | (refine wl_ev rfl (by first | exact ev_cmpT rfl rfl rfl rfl | exact ev_cmpF rfl rfl rfl rfl | exact c_bNe rfl rfl rfl Try.underlying4 | exact c_bEq rfl rfl rfl Try.underlying4 | exact c_peq rfl rfl | exact c_pne rfl rfl) ?_) | (refine wl_cmp rfl rfl rfl rfl rfl (fun h => ?_) (fun h => ?_) <;> (simp only [cmpP] at h))) | (refine is_indexAddr rfl ?_; refine wl_ev rfl (c_ix rfl rfl rfl) ?_)) <;> (simp only [nrm, ↓reduceIte, Nat.reduceAdd])) | ((first | (refine is_make rfl ?_; refine wl_rw rfl (fun K hK => c_mk H rfl rfl rfl (h := (fun g w1 hg hf H1 => hK _ _ ?_)))) | (refine is_store rfl ?_; first | (refine wl_rw rfl (fun K hK => c_st H rfl rfl rfl (h := (fun w1 hf H1 => hK _ _ ?_)))) | (refine wl_rw rfl (fun K hK => c_stc H rfl rfl (h := (fun w1 hf H1 => hK _ _ ?_)))))); (clear hK K); (clear H; have H := H1; clear H1; (try dsimp only at H); (try clear hf)); (simp only [nrm, ↓reduceIte, Nat.reduceAdd])))
                    go_roundw
                    case rel => exact ⟨j + 1, dl, fl, by omega, Hdl, Hfl, by go_num, H⟩
                    case measure => simp [intOf]; omega
                · go_wp2_with (first | ((first | (refine is_load rfl ?_; refine wl_ev rfl (by first | exact c_ld H rfl rfl | exact c_ld0 H rfl rfl | exact c_ldz H rfl rfl | exact c_ldr H rfl rfl | exact c_ln H rfl rfl | exact c_lnp H rfl rfl | exact c_lnz H rfl rfl | exact c_lnr H rfl rfl) ?_) | (refine is_cmp rfl rfl ?_; first | (refine wl_ev rfl (by first | exact ev_cmpT rfl rfl rfl rfl | exact ev_cmpF rfl rfl rfl rfl | exact c_bNe rfl rfl rfl Try.underlying4 | exact c_bEq rfl rfl rfl Try.underlying4 | exact c_peq rfl rfl | exact c_pne rfl rfl) ?_) | (refine wl_cmp rfl rfl rfl rfl rfl (fun h => ?_) (fun h => ?_) <;> (simp only [cmpP] at h))) | (refine is_indexAddr rfl ?_; refine wl_ev rfl (c_ix rfl rfl rfl) ?_)) <;> (simp only [nrm, ↓reduceIte, Nat.reduceAdd])) | ((first | (refine is_make rfl ?_; refine wl_rw rfl (fun K hK => c_mk H rfl rfl rfl (h := (fun g w1 hg hf H1 => hK _ _ ?_)))) | (refine is_store rfl ?_; first | (refine wl_rw rfl (fun K hK => c_st H rfl rfl rfl (h := (fun w1 hf H1 => hK _ _ ?_)))) | (refine wl_rw rfl (fun K hK => c_stc H rfl rfl (h := (fun w1 hf H1 => hK _ _ ?_)))))); (clear hK K); (clear H; have H := H1; clear H1; (try dsimp only at H); (try clear hf)); (simp only [nrm, ↓reduceIte, Nat.reduceAdd])))
                  go_roundw
                  case rel => exact ⟨j + 1, dl, fl, by omega, Hdl, Hfl, by go_num, H⟩
                  case measure => simp [intOf]; omega
              · obtain ⟨di, hdi2⟩ : ∃ x, dl[i]? = some x := ⟨_, List.getElem?_eq_getElem hdi⟩
                obtain ⟨fi, hfi2⟩ : ∃ x, fl[i]? = some x := ⟨_, List.getElem?_eq_getElem hfi⟩
                have hdv := boolsV_at hdi2
                have hfv := boolsV_at hfi2
                clear hdi2 hfi2
                cases fi
                · go_wp2_with (first | ((first | (refine is_load rfl ?_; refine wl_ev rfl (by first | exact c_ld H rfl rfl | exact c_ld0 H rfl rfl | exact c_ldz H rfl rfl | exact c_ldr H rfl rfl | exact c_ln H rfl rfl | exact c_lnp H rfl rfl | exact c_lnz H rfl rfl | exact c_lnr H rfl rfl) ?_) | (refine is_cmp rfl rfl ?_; first | (refine wl_ev rfl (by first | exact ev_cmpT rfl rfl rfl rfl | exact ev_cmpF rfl rfl rfl rfl | exact c_bNe rfl rfl rfl Try.underlying4 | exact c_bEq rfl rfl rfl Try.underlying4 | exact c_peq rfl rfl | exact c_pne rfl rfl) ?_) | (refine wl_cmp rfl rfl rfl rfl rfl (fun h => ?_) (fun h => ?_) <;> (simp only [cmpP] at h))) | (refine is_indexAddr rfl ?_; refine wl_ev rfl (c_ix rfl rfl rfl) ?_)) <;> (simp only [nrm, ↓reduceIte, Nat.reduceAdd])) | ((first | (refine is_make rfl ?_; refine wl_rw rfl (fun K hK => c_mk H rfl rfl rfl (h := (fun g w1 hg hf H1 => hK _ _ ?_)))) | (refine is_store rfl ?_; first | (refine wl_rw rfl (fun K hK => c_st H rfl rfl rfl (h := (fun w1 hf H1 => hK _ _ ?_)))) | (refine wl_rw rfl (fun K hK => c_stc H rfl rfl (h := (fun w1 hf H1 => hK _ _ ?_)))))); (clear hK K); (clear H; have H := H1; clear H1; (try dsimp only at H); (try clear hf)); (simp only [nrm, ↓reduceIte, Nat.reduceAdd])))
                  rw [boolsV_set] at H
                  go_roundw
                  case rel => exact ⟨i + 1, dl, fl.set i _, by omega, Hdl, hid (by rw [List.length_set]; exact Hfl.out), by go_num, H⟩
                  case measure => simp [intOf]; omega
                · cases di
                  · go_wp2_with (first | ((first | (refine is_load rfl ?_; refine wl_ev rfl (by first | exact c_ld H rfl rfl | exact c_ld0 H rfl rfl | exact c_ldz H rfl rfl | exact c_ldr H rfl rfl | exact c_ln H rfl rfl | exact c_lnp H rfl rfl | exact c_lnz H rfl rfl | exact c_lnr H rfl rfl) ?_) | (refine is_cmp rfl rfl ?_; first | (refine wl_ev rfl (by first | exact ev_cmpT rfl rfl rfl rfl | exact ev_cmpF rfl rfl rfl rfl | exact c_bNe rfl rfl rfl Try.underlying4 | exact c_bEq rfl rfl rfl Try.underlying4 | exact c_peq rfl rfl | exact c_pne rfl rfl) ?_) | (refine wl_cmp rfl rfl rfl rfl rfl (fun h => ?_) (fun h => ?_) <;> (simp only [cmpP] at h))) | (refine is_indexAddr rfl ?_; refine wl_ev rfl (c_ix rfl rfl rfl) ?_)) <;> (simp only [nrm, ↓reduceIte, Nat.reduceAdd])) | ((first | (refine is_make rfl ?_; refine wl_rw rfl (fun K hK => c_mk H rfl rfl rfl (h := (fun g w1 hg hf H1 => hK _ _ ?_)))) | (refine is_store rfl ?_; first | (refine wl_rw rfl (fun K hK => c_st H rfl rfl rfl (h := (fun w1 hf H1 => hK _ _ ?_)))) | (refine wl_rw rfl (fun K hK => c_stc H rfl rfl (h := (fun w1 hf H1 => hK _ _ ?_)))))); (clear hK K); (clear H; have H := H1; clear H1; (try dsimp only at H); (try clear hf)); (simp only [nrm, ↓reduceIte, Nat.reduceAdd])))
                    rw [boolsV_set] at H
                    go_roundw
                    case rel => exact ⟨i + 1, dl, fl.set i _, by omega, Hdl, hid (by rw [List.length_set]; exact Hfl.out), by go_num, H⟩
                    case measure => simp [intOf]; omega
                  · go_wp2_with (first | ((first | (refine is_load rfl ?_; refine wl_ev rfl (by first | exact c_ld H rfl rfl | exact c_ld0 H rfl rfl | exact c_ldz H rfl rfl | exact c_ldr H rfl rfl | exact c_ln H rfl rfl | exact c_lnp H rfl rfl | exact c_lnz H rfl rfl | exact c_lnr H rfl rfl) ?_) | (refine is_cmp rfl rfl ?_; first | (refine wl_ev rfl (by first | exact ev_cmpT rfl rfl rfl rfl | exact ev_cmpF rfl rfl rfl rfl | exact c_bNe rfl rfl rfl Try.underlying4 | exact c_bEq rfl rfl rfl Try.underlying4 | exact c_peq rfl rfl | exact c_pne rfl rfl) ?_) | (refine wl_cmp rfl rfl rfl rfl rfl (fun h => ?_) (fun h => ?_) <;> (simp only [cmpP] at h))) | (refine is_indexAddr rfl ?_; refine wl_ev rfl (c_ix rfl rfl rfl) ?_)) <;> (simp only [nrm, ↓reduceIte, Nat.reduceAdd])) | ((first | (refine is_make rfl ?_; refine wl_rw rfl (fun K hK => c_mk H rfl rfl rfl (h := (fun g w1 hg hf H1 => hK _ _ ?_)))) | (refine is_store rfl ?_; first | (refine wl_rw rfl (fun K hK => c_st H rfl rfl rfl (h := (fun w1 hf H1 => hK _ _ ?_)))) | (refine wl_rw rfl (fun K hK => c_stc H rfl rfl (h := (fun w1 hf H1 => hK _ _ ?_)))))); (clear hK K); (clear H; have H := H1; clear H1; (try dsimp only at H); (try clear hf)); (simp only [nrm, ↓reduceIte, Nat.reduceAdd])))
                    rw [boolsV_set] at H
                    go_roundw
                    case rel => exact ⟨i + 1, dl, fl.set i _, by omega, Hdl, hid (by rw [List.length_set]; exact Hfl.out), by go_num, H⟩
                    case measure => simp [intOf]; omega
          · go_wp2_with (first | ((first | (refine is_load rfl ?_; refine wl_ev rfl (by first | exact c_ld H rfl rfl | exact c_ld0 H rfl rfl | exact c_ldz H rfl rfl | exact c_ldr H rfl rfl | exact c_ln H rfl rfl | exact c_lnp H rfl rfl | exact c_lnz H rfl rfl | exact c_lnr H rfl rfl) ?_) | (refine is_cmp rfl rfl ?_; first | (refine wl_ev rfl (by first | exact ev_cmpT rfl rfl rfl rfl | exact ev_cmpF rfl rfl rfl rfl | exact c_bNe rfl rfl rfl Try.underlying4 | exact c_bEq rfl rfl rfl Try.underlying4 | exact c_peq rfl rfl | exact c_pne rfl rfl) ?_) | (refine wl_cmp rfl rfl rfl rfl rfl (fun h => ?_) (fun h => ?_) <;> (simp only [cmpP] at h))) | (refine is_indexAddr rfl ?_; refine wl_ev rfl (c_ix rfl rfl rfl) ?_)) <;> (simp only [nrm, ↓reduceIte, Nat.reduceAdd])) | ((first | (refine is_make rfl ?_; refine wl_rw rfl (fun K hK => c_mk H rfl rfl rfl (h := (fun g w1 hg hf H1 => hK _ _ ?_)))) | (refine is_store rfl ?_; first | (refine wl_rw rfl (fun K hK => c_st H rfl rfl rfl (h := (fun w1 hf H1 => hK _ _ ?_)))) | (refine wl_rw rfl (fun K hK => c_stc H rfl rfl (h := (fun w1 hf H1 => hK _ _ ?_)))))); (clear hK K); (clear H; have H := H1; clear H1; (try dsimp only at H); (try clear hf)); (simp only [nrm, ↓reduceIte, Nat.reduceAdd])))
            go_meet
            case rel => exact ⟨some ⟨gd, 0, none⟩, some ⟨gf, 0, none⟩, par.length, par.length, par.length, par.length, dl, fl, rfl, rfl, by omega, by omega, Hdl, Hfl, hid (H.rd (b := gd) (off := 0) (vs := boolsV dl) List.prefix_rfl), hid (H.rd (b := gf) (off := 0) (vs := boolsV fl) List.prefix_rfl), H.sub (by repeat first | exact List.Sublist.refl _ | exact List.nil_sublist _ | apply List.Sublist.cons_cons | apply List.Sublist.cons)⟩
  case rest =>
    clear H
    obtain ⟨q3, q4, n3, n4, d3, d4, fin, bro, rfl, rfl, hn3, hn4, Hfl, Hbl, Hrf, Hrb, H⟩ := hcut
    have hfr0 := hid H.fr
    have HP1 := hid (H.rd (b := g1) (off := 0) (n := par.length) (c := c1) (vs := ints par) (List.prefix_append _ _))
    have HP2 := hid (H.rd (b := g2) (off := 0) (n := par.length) (c := c2) (vs := ints own) (List.prefix_append _ _))
    have H1 := Hp.start [] wc
    clear H
    have H := H1
    clear H1
    go_wp2_with (first | ((first | (refine is_load rfl ?_; refine wl_ev rfl (by first | exact c_ld H rfl rfl | exact c_ld0 H rfl rfl | exact c_ldz H rfl rfl | exact c_ldr H rfl rfl | exact c_ln H rfl rfl | exact c_lnp H rfl rfl | exact c_lnz H rfl rfl | exact c_lnr H rfl rfl) ?_) | (refine is_cmp rfl rfl ?_; first | (refine wl_ev rfl (by first | exact ev_cmpT rfl rfl rfl rfl | exact ev_cmpF rfl rfl rfl rfl | exact c_bNe rfl rfl rfl Try.underlying4 | exact c_bEq rfl rfl rfl Try.underlying4 | exact c_peq rfl rfl | exact c_pne rfl rfl) ?_) | (refine wl_cmp rfl rfl rfl rfl rfl (fun h => ?_) (fun h => ?_) <;> (simp only [cmpP] at h))) | (refine is_indexAddr rfl ?_; refine wl_ev rfl (c_ix rfl rfl rfl) ?_)) <;> (simp only [nrm, ↓reduceIte, Nat.reduceAdd])) | ((first | (refine is_make rfl ?_; refine wl_rw rfl (fun K hK => c_mk H rfl rfl rfl (h := (fun g w1 hg hf H1 => hK _ _ ?_)))) | (refine is_store rfl ?_; first | (refine wl_rw rfl (fun K hK => c_st H rfl rfl rfl (h := (fun w1 hf H1 => hK _ _ ?_)))) | (refine wl_rw rfl (fun K hK => c_stc H rfl rfl (h := (fun w1 hf H1 => hK _ _ ?_)))))); (clear hK K); (clear H; have H := H1; clear H1; (try dsimp only at H); (try clear hf)); (simp only [nrm, ↓reduceIte, Nat.reduceAdd])))
    refine Calls.mono (resumeP_any par own k fin bro Hol.out Hfl.out Hbl.out (HP1.out.fr H.fr (by simp)) (by simp) (HP2.out.fr H.fr (by simp)) (by simp) (by omega) (Hrf.out.fr H.fr (by simp)) (Hrb.out.fr H.fr (by simp))) ?_
    rintro e w1 ⟨v, rfl, hF, hres⟩
    rcases hres with ⟨he, A, rfl, hP, hfresh⟩ | ⟨he, rfl⟩
    · rw [he]
      have He := hid he
      have H1 := H.new (w' := w1) A.b hF (show PoolAt A (resumeS par own k fin bro) A.S w1 from hP.o) hfresh
      clear H hF hP hfresh he
      have H := H1
      clear H1
      go_wp2_with (first | ((first | (refine is_load rfl ?_; refine wl_ev rfl (by first | exact c_ld H rfl rfl | exact c_ld0 H rfl rfl | exact c_ldz H rfl rfl | exact c_ldr H rfl rfl | exact c_ln H rfl rfl | exact c_lnp H rfl rfl | exact c_lnz H rfl rfl | exact c_lnr H rfl rfl) ?_) | (refine is_cmp rfl rfl ?_; first | (refine wl_ev rfl (by first | exact ev_cmpT rfl rfl rfl rfl | exact ev_cmpF rfl rfl rfl rfl | exact c_bNe rfl rfl rfl Try.underlying4 | exact c_bEq rfl rfl rfl Try.underlying4 | exact c_peq rfl rfl | exact c_pne rfl rfl) ?_) | (refine wl_cmp rfl rfl rfl rfl rfl (fun h => ?_) (fun h => ?_) <;> (simp only [cmpP] at h))) | (refine is_indexAddr rfl ?_; refine wl_ev rfl (c_ix rfl rfl rfl) ?_)) <;> (simp only [nrm, ↓reduceIte, Nat.reduceAdd])) | ((first | (refine is_make rfl ?_; refine wl_rw rfl (fun K hK => c_mk H rfl rfl rfl (h := (fun g w1 hg hf H1 => hK _ _ ?_)))) | (refine is_store rfl ?_; first | (refine wl_rw rfl (fun K hK => c_st H rfl rfl rfl (h := (fun w1 hf H1 => hK _ _ ?_)))) | (refine wl_rw rfl (fun K hK => c_stc H rfl rfl (h := (fun w1 hf H1 => hK _ _ ?_)))))); (clear hK K); (clear H; have H := H1; clear H1; (try dsimp only at H); (try clear hf)); (simp only [nrm, ↓reduceIte, Nat.reduceAdd])))
      refine Calls.mono (resumeQ_any par own k fin bro Hol.out Hfl.out Hbl.out (HP1.out.fr H.fr (by simp)) (HP2.out.fr H.fr (by simp)) (by omega) (Hrf.out.fr H.fr (by simp)) (by omega) (Hrb.out.fr H.fr (by simp)) (by omega)) ?_
      rintro e w1 ⟨v, rfl, hF, hres⟩
      rw [He.out] at hres ⊢
      obtain ⟨_, D, rfl, hD, hfresh⟩ := hres.resolve_right (fun h => h rfl)
      have H1 := H.new (w' := w1) D.b hF (show DAt D (resumeS par own k fin bro) D.S w1 from hD.o) hfresh
      clear H hF hres hD hfresh
      have H := H1
      clear H1
      have HJ : Hid (PJ (resumeS par own k fin bro)) := hid (PJ_resume He.out)
      generalize resumeS par own k fin bro = s0 at H HJ
      go_wp2_with (first | ((first | (refine is_load rfl ?_; refine wl_ev rfl (by first | exact c_ld H rfl rfl | exact c_ld0 H rfl rfl | exact c_ldz H rfl rfl | exact c_ldr H rfl rfl | exact c_ln H rfl rfl | exact c_lnp H rfl rfl | exact c_lnz H rfl rfl | exact c_lnr H rfl rfl) ?_) | (refine is_cmp rfl rfl ?_; first | (refine wl_ev rfl (by first | exact ev_cmpT rfl rfl rfl rfl | exact ev_cmpF rfl rfl rfl rfl | exact c_bNe rfl rfl rfl Try.underlying4 | exact c_bEq rfl rfl rfl Try.underlying4 | exact c_peq rfl rfl | exact c_pne rfl rfl) ?_) | (refine wl_cmp rfl rfl rfl rfl rfl (fun h => ?_) (fun h => ?_) <;> (simp only [cmpP] at h))) | (refine is_indexAddr rfl ?_; refine wl_ev rfl (c_ix rfl rfl rfl) ?_)) <;> (simp only [nrm, ↓reduceIte, Nat.reduceAdd])) | ((first | (refine is_make rfl ?_; refine wl_rw rfl (fun K hK => c_mk H rfl rfl rfl (h := (fun g w1 hg hf H1 => hK _ _ ?_)))) | (refine is_store rfl ?_; first | (refine wl_rw rfl (fun K hK => c_st H rfl rfl rfl (h := (fun w1 hf H1 => hK _ _ ?_)))) | (refine wl_rw rfl (fun K hK => c_stc H rfl rfl (h := (fun w1 hf H1 => hK _ _ ?_)))))); (clear hK K); (clear H; have H := H1; clear H1; (try dsimp only at H); (try clear hf)); (simp only [nrm, ↓reduceIte, Nat.reduceAdd])))
      (refine Calls.mono (same_any (H.pool A.b) (H.dpool D.b) HJ.out) ?_; rintro e w1 ⟨rfl, hF⟩; have H1 := H.step hF (by simp); clear H; have H := H1; clear H1)
      go_wp2_with (first | ((first | (refine is_load rfl ?_; refine wl_ev rfl (by first | exact c_ld H rfl rfl | exact c_ld0 H rfl rfl | exact c_ldz H rfl rfl | exact c_ldr H rfl rfl | exact c_ln H rfl rfl | exact c_lnp H rfl rfl | exact c_lnz H rfl rfl | exact c_lnr H rfl rfl) ?_) | (refine is_cmp rfl rfl ?_; first | (refine wl_ev rfl (by first | exact ev_cmpT rfl rfl rfl rfl | exact ev_cmpF rfl rfl rfl rfl | exact c_bNe rfl rfl rfl Try.underlying4 | exact c_bEq rfl rfl rfl Try.underlying4 | exact c_peq rfl rfl | exact c_pne rfl rfl) ?_) | (refine wl_cmp rfl rfl rfl rfl rfl (fun h => ?_) (fun h => ?_) <;> (simp only [cmpP] at h))) | (refine is_indexAddr rfl ?_; refine wl_ev rfl (c_ix rfl rfl rfl) ?_)) <;> (simp only [nrm, ↓reduceIte, Nat.reduceAdd])) | ((first | (refine is_make rfl ?_; refine wl_rw rfl (fun K hK => c_mk H rfl rfl rfl (h := (fun g w1 hg hf H1 => hK _ _ ?_)))) | (refine is_store rfl ?_; first | (refine wl_rw rfl (fun K hK => c_st H rfl rfl rfl (h := (fun w1 hf H1 => hK _ _ ?_)))) | (refine wl_rw rfl (fun K hK => c_stc H rfl rfl (h := (fun w1 hf H1 => hK _ _ ?_)))))); (clear hK K); (clear H; have H := H1; clear H1; (try dsimp only at H); (try clear hf)); (simp only [nrm, ↓reduceIte, Nat.reduceAdd])))
      go_loopw [26] (fun s26 wr => ∃ (i : Nat) (s : PS), i ≤ l.length ∧ s26 = .int .i64 i ∧ Hid (PJ s) ∧ Hp [] wc wr [.obj A.b A.S (PoolAt A s A.S), .obj D.b D.S (DAt D s D.S)]) (fun u _ => l.length - (intOf u).toNat)
      case atStart => exact ⟨0, s0, Nat.zero_le _, rfl, HJ, by (refine Hp.arr H ?_; repeat (first | exact Pm.nil _ | (apply Pm.cons; · (repeat first | exact Rm.here _ | apply Rm.there))))⟩
      case round =>
        clear H HJ
        obtain ⟨i, s, hi, rfl, HJ, H⟩ := hrel
        by_cases hin : i < l.length
        · obtain ⟨d, hd⟩ : ∃ d, l[i]? = some d := ⟨_, List.getElem?_eq_getElem hin⟩
          have hpc : pairV d <+: (l.flatMap pairV).drop (i * 2) := piece_flat pairV 2 l i d (fun _ _ => rfl) hd
          obtain ⟨b0, off, rfl, hb0, hcell⟩ := (Hrd.out.fr hfr0.out (by simp)).rng (by intro h; have := hpc.length_le; rw [h] at this; simp [pairV] at this)
          have H1 := H.pushRng (b := b0) (off := off) (cs := l.flatMap pairV) hb0 (by simp) hcell
          clear H hcell
          have H := H1
          clear H1
          have hpc2 : [Value.int .i64 d.1, Value.int .i64 d.2] <+: (l.flatMap pairV).drop (i * 2) := hpc
          clear hd hpc
          go_wp2_with (first | ((first | (refine is_load rfl ?_; refine wl_ev rfl (by first | exact c_ld H rfl rfl | exact c_ld0 H rfl rfl | exact c_ldz H rfl rfl | exact c_ldr H rfl rfl | exact c_ln H rfl rfl | exact c_lnp H rfl rfl | exact c_lnz H rfl rfl | exact c_lnr H rfl rfl) ?_) | (refine is_cmp rfl rfl ?_; first | (refine wl_ev rfl (by first | exact ev_cmpT rfl rfl rfl rfl | exact ev_cmpF rfl rfl rfl rfl | exact c_bNe rfl rfl rfl Try.underlying4 | exact c_bEq rfl rfl rfl Try.underlying4 | exact c_peq rfl rfl | exact c_pne rfl rfl) ?_) | (refine wl_cmp rfl rfl rfl rfl rfl (fun h => ?_) (fun h => ?_) <;> (simp only [cmpP] at h))) | (refine is_indexAddr rfl ?_; refine wl_ev rfl (c_ix rfl rfl rfl) ?_)) <;> (simp only [nrm, ↓reduceIte, Nat.reduceAdd])) | ((first | (refine is_make rfl ?_; refine wl_rw rfl (fun K hK => c_mk H rfl rfl rfl (h := (fun g w1 hg hf H1 => hK _ _ ?_)))) | (refine is_store rfl ?_; first | (refine wl_rw rfl (fun K hK => c_st H rfl rfl rfl (h := (fun w1 hf H1 => hK _ _ ?_)))) | (refine wl_rw rfl (fun K hK => c_stc H rfl rfl (h := (fun w1 hf H1 => hK _ _ ?_)))))); (clear hK K); (clear H; have H := H1; clear H1; (try dsimp only at H); (try clear hf)); (simp only [nrm, ↓reduceIte, Nat.reduceAdd])))
          refine Calls.mono (does_any (H.pool A.b) (H.dpool D.b) HJ.out (two_apart (H.sub (l' := [.obj A.b A.S (PoolAt A s A.S), .obj D.b D.S (DAt D s D.S)]) (by repeat first | exact List.Sublist.refl _ | exact List.nil_sublist _ | apply List.Sublist.cons_cons | apply List.Sublist.cons))) d.1 d.2) ?_
          rintro e w1 ⟨rfl, hF, s', J', hP, hD⟩
          have H2 := H.sub (l' := [.obj A.b A.S (PoolAt A s A.S), .obj D.b D.S (DAt D s D.S)]) (by repeat first | exact List.Sublist.refl _ | exact List.nil_sublist _ | apply List.Sublist.cons_cons | apply List.Sublist.cons)
          have H1 := H2.upd2 (w' := w1) (S1' := A.S) (S2' := D.S) hF hP.o hD.o (fun x hx => .inl (List.mem_append_left _ hx)) (fun x hx => .inl (List.mem_append_right _ hx)) (two_apart H2)
          have HJ' := hid J'
          clear H H2 hF hP hD J'
          have H := H1
          clear H1
          go_wp2_with (first | ((first | (refine is_load rfl ?_; refine wl_ev rfl (by first | exact c_ld H rfl rfl | exact c_ld0 H rfl rfl | exact c_ldz H rfl rfl | exact c_ldr H rfl rfl | exact c_ln H rfl rfl | exact c_lnp H rfl rfl | exact c_lnz H rfl rfl | exact c_lnr H rfl rfl) ?_) | (refine is_cmp rfl rfl ?_; first | (refine wl_ev rfl (by first | exact ev_cmpT rfl rfl rfl rfl | exact ev_cmpF rfl rfl rfl rfl | exact c_bNe rfl rfl rfl Try.underlying4 | exact c_bEq rfl rfl rfl Try.underlying4 | exact c_peq rfl rfl | exact c_pne rfl rfl) ?_) | (refine wl_cmp rfl rfl rfl rfl rfl (fun h => ?_) (fun h => ?_) <;> (simp only [cmpP] at h))) | (refine is_indexAddr rfl ?_; refine wl_ev rfl (c_ix rfl rfl rfl) ?_)) <;> (simp only [nrm, ↓reduceIte, Nat.reduceAdd])) | ((first | (refine is_make rfl ?_; refine wl_rw rfl (fun K hK => c_mk H rfl rfl rfl (h := (fun g w1 hg hf H1 => hK _ _ ?_)))) | (refine is_store rfl ?_; first | (refine wl_rw rfl (fun K hK => c_st H rfl rfl rfl (h := (fun w1 hf H1 => hK _ _ ?_)))) | (refine wl_rw rfl (fun K hK => c_stc H rfl rfl (h := (fun w1 hf H1 => hK _ _ ?_)))))); (clear hK K); (clear H; have H := H1; clear H1; (try dsimp only at H); (try clear hf)); (simp only [nrm, ↓reduceIte, Nat.reduceAdd])))
          (refine Calls.mono (same_any (H.pool A.b) (H.dpool D.b) HJ'.out) ?_; rintro e w1 ⟨rfl, hF⟩; have H1 := H.step hF (by simp); clear H; have H := H1; clear H1)
          go_wp2_with (first | ((first | (refine is_load rfl ?_; refine wl_ev rfl (by first | exact c_ld H rfl rfl | exact c_ld0 H rfl rfl | exact c_ldz H rfl rfl | exact c_ldr H rfl rfl | exact c_ln H rfl rfl | exact c_lnp H rfl rfl | exact c_lnz H rfl rfl | exact c_lnr H rfl rfl) ?_) | (refine is_cmp rfl rfl ?_; first | (refine wl_ev rfl (by first | exact ev_cmpT rfl rfl rfl rfl | exact ev_cmpF rfl rfl rfl rfl | exact c_bNe rfl rfl rfl Try.underlying4 | exact c_bEq rfl rfl rfl Try.underlying4 | exact c_peq rfl rfl | exact c_pne rfl rfl) ?_) | (refine wl_cmp rfl rfl rfl rfl rfl (fun h => ?_) (fun h => ?_) <;> (simp only [cmpP] at h))) | (refine is_indexAddr rfl ?_; refine wl_ev rfl (c_ix rfl rfl rfl) ?_)) <;> (simp only [nrm, ↓reduceIte, Nat.reduceAdd])) | ((first | (refine is_make rfl ?_; refine wl_rw rfl (fun K hK => c_mk H rfl rfl rfl (h := (fun g w1 hg hf H1 => hK _ _ ?_)))) | (refine is_store rfl ?_; first | (refine wl_rw rfl (fun K hK => c_st H rfl rfl rfl (h := (fun w1 hf H1 => hK _ _ ?_)))) | (refine wl_rw rfl (fun K hK => c_stc H rfl rfl (h := (fun w1 hf H1 => hK _ _ ?_)))))); (clear hK K); (clear H; have H := H1; clear H1; (try dsimp only at H); (try clear hf)); (simp only [nrm, ↓reduceIte, Nat.reduceAdd])))
          go_roundw
          case rel => exact ⟨i + 1, s', by omega, by go_num, HJ', H⟩
          case measure => simp [intOf]; omega
        · go_wp2_with (first | ((first | (refine is_load rfl ?_; refine wl_ev rfl (by first | exact c_ld H rfl rfl | exact c_ld0 H rfl rfl | exact c_ldz H rfl rfl | exact c_ldr H rfl rfl | exact c_ln H rfl rfl | exact c_lnp H rfl rfl | exact c_lnz H rfl rfl | exact c_lnr H rfl rfl) ?_) | (refine is_cmp rfl rfl ?_; first | (refine wl_ev rfl (by first | exact ev_cmpT rfl rfl rfl rfl | exact ev_cmpF rfl rfl rfl rfl | exact c_bNe rfl rfl rfl Try.underlying4 | exact c_bEq rfl rfl rfl Try.underlying4 | exact c_peq rfl rfl | exact c_pne rfl rfl) ?_) | (refine wl_cmp rfl rfl rfl rfl rfl (fun h => ?_) (fun h => ?_) <;> (simp only [cmpP] at h))) | (refine is_indexAddr rfl ?_; refine wl_ev rfl (c_ix rfl rfl rfl) ?_)) <;> (simp only [nrm, ↓reduceIte, Nat.reduceAdd])) | ((first | (refine is_make rfl ?_; refine wl_rw rfl (fun K hK => c_mk H rfl rfl rfl (h := (fun g w1 hg hf H1 => hK _ _ ?_)))) | (refine is_store rfl ?_; first | (refine wl_rw rfl (fun K hK => c_st H rfl rfl rfl (h := (fun w1 hf H1 => hK _ _ ?_)))) | (refine wl_rw rfl (fun K hK => c_stc H rfl rfl (h := (fun w1 hf H1 => hK _ _ ?_)))))); (clear hK K); (clear H; have H := H1; clear H1; (try dsimp only at H); (try clear hf)); (simp only [nrm, ↓reduceIte, Nat.reduceAdd])))
          (refine Calls.mono (awake33_any _) ?_; rintro e w1 ⟨rfl, hF⟩; have H1 := H.step hF (by simp); clear H; have H := H1; clear H1)
          go_wp2_with (first | ((first | (refine is_load rfl ?_; refine wl_ev rfl (by first | exact c_ld H rfl rfl | exact c_ld0 H rfl rfl | exact c_ldz H rfl rfl | exact c_ldr H rfl rfl | exact c_ln H rfl rfl | exact c_lnp H rfl rfl | exact c_lnz H rfl rfl | exact c_lnr H rfl rfl) ?_) | (refine is_cmp rfl rfl ?_; first | (refine wl_ev rfl (by first | exact ev_cmpT rfl rfl rfl rfl | exact ev_cmpF rfl rfl rfl rfl | exact c_bNe rfl rfl rfl Try.underlying4 | exact c_bEq rfl rfl rfl Try.underlying4 | exact c_peq rfl rfl | exact c_pne rfl rfl) ?_) | (refine wl_cmp rfl rfl rfl rfl rfl (fun h => ?_) (fun h => ?_) <;> (simp only [cmpP] at h))) | (refine is_indexAddr rfl ?_; refine wl_ev rfl (c_ix rfl rfl rfl) ?_)) <;> (simp only [nrm, ↓reduceIte, Nat.reduceAdd])) | ((first | (refine is_make rfl ?_; refine wl_rw rfl (fun K hK => c_mk H rfl rfl rfl (h := (fun g w1 hg hf H1 => hK _ _ ?_)))) | (refine is_store rfl ?_; first | (refine wl_rw rfl (fun K hK => c_st H rfl rfl rfl (h := (fun w1 hf H1 => hK _ _ ?_)))) | (refine wl_rw rfl (fun K hK => c_stc H rfl rfl (h := (fun w1 hf H1 => hK _ _ ?_)))))); (clear hK K); (clear H; have H := H1; clear H1; (try dsimp only at H); (try clear hf)); (simp only [nrm, ↓reduceIte, Nat.reduceAdd])))
          (refine bodyPost_ret (results_tmp rfl _ _ _) rfl ?_)
          exact ⟨rfl, hfr0.out.trans H.fr⟩
    · have HZ : Hid (∃ z, resumeE par own k fin bro = z ∧ z ≠ 0) := hid ⟨_, rfl, he⟩
      have H1 := H.step hF (by simp)
      clear H hF he
      have H := H1
      clear H1
      obtain ⟨z, hz, hz0⟩ := HZ.out
      rw [hz]
      have Hz := hid hz
      clear hz HZ
      go_wp2_with (first | ((first | (refine is_load rfl ?_; refine wl_ev rfl (by first | exact c_ld H rfl rfl | exact c_ld0 H rfl rfl | exact c_ldz H rfl rfl | exact c_ldr H rfl rfl | exact c_ln H rfl rfl | exact c_lnp H rfl rfl | exact c_lnz H rfl rfl | exact c_lnr H rfl rfl) ?_) | (refine is_cmp rfl rfl ?_; first | (refine wl_ev rfl (by first | exact ev_cmpT rfl rfl rfl rfl | exact ev_cmpF rfl rfl rfl rfl | exact c_bNe rfl rfl rfl Try.underlying4 | exact c_bEq rfl rfl rfl Try.underlying4 | exact c_peq rfl rfl | exact c_pne rfl rfl) ?_) | (refine wl_cmp rfl rfl rfl rfl rfl (fun h => ?_) (fun h => ?_) <;> (simp only [cmpP] at h))) | (refine is_indexAddr rfl ?_; refine wl_ev rfl (c_ix rfl rfl rfl) ?_)) <;> (simp only [nrm, ↓reduceIte, Nat.reduceAdd])) | ((first | (refine is_make rfl ?_; refine wl_rw rfl (fun K hK => c_mk H rfl rfl rfl (h := (fun g w1 hg hf H1 => hK _ _ ?_)))) | (refine is_store rfl ?_; first | (refine wl_rw rfl (fun K hK => c_st H rfl rfl rfl (h := (fun w1 hf H1 => hK _ _ ?_)))) | (refine wl_rw rfl (fun K hK => c_stc H rfl rfl (h := (fun w1 hf H1 => hK _ _ ?_)))))); (clear hK K); (clear H; have H := H1; clear H1; (try dsimp only at H); (try clear hf)); (simp only [nrm, ↓reduceIte, Nat.reduceAdd])))
      refine Calls.mono (resumeQ_any par own k fin bro Hol.out Hfl.out Hbl.out (HP1.out.fr H.fr (by simp)) (HP2.out.fr H.fr (by simp)) (by omega) (Hrf.out.fr H.fr (by simp)) (by omega) (Hrb.out.fr H.fr (by simp)) (by omega)) ?_
      rintro e w1 ⟨v, rfl, hF, hres⟩
      rw [Hz.out]
      have H1 := H.step hF (by simp)
      clear H hF hres
      have H := H1
      clear H1
      go_wp2_with (first | ((first | (refine is_load rfl ?_; refine wl_ev rfl (by first | exact c_ld H rfl rfl | exact c_ld0 H rfl rfl | exact c_ldz H rfl rfl | exact c_ldr H rfl rfl | exact c_ln H rfl rfl | exact c_lnp H rfl rfl | exact c_lnz H rfl rfl | exact c_lnr H rfl rfl) ?_) | (refine is_cmp rfl rfl ?_; first | (refine wl_ev rfl (by first | exact ev_cmpT rfl rfl rfl rfl | exact ev_cmpF rfl rfl rfl rfl | exact c_bNe rfl rfl rfl Try.underlying4 | exact c_bEq rfl rfl rfl Try.underlying4 | exact c_peq rfl rfl | exact c_pne rfl rfl) ?_) | (refine wl_cmp rfl rfl rfl rfl rfl (fun h => ?_) (fun h => ?_) <;> (simp only [cmpP] at h))) | (refine is_indexAddr rfl ?_; refine wl_ev rfl (c_ix rfl rfl rfl) ?_)) <;> (simp only [nrm, ↓reduceIte, Nat.reduceAdd])) | ((first | (refine is_make rfl ?_; refine wl_rw rfl (fun K hK => c_mk H rfl rfl rfl (h := (fun g w1 hg hf H1 => hK _ _ ?_)))) | (refine is_store rfl ?_; first | (refine wl_rw rfl (fun K hK => c_st H rfl rfl rfl (h := (fun w1 hf H1 => hK _ _ ?_)))) | (refine wl_rw rfl (fun K hK => c_stc H rfl rfl (h := (fun w1 hf H1 => hK _ _ ?_)))))); (clear hK K); (clear H; have H := H1; clear H1; (try dsimp only at H); (try clear hf)); (simp only [nrm, ↓reduceIte, Nat.reduceAdd])))
      (refine Calls.mono (awake33_any _) ?_; rintro e w1 ⟨rfl, hF⟩; have H1 := H.step hF (by simp); clear H; have H := H1; clear H1)
      go_wp2_with (first | ((first | (refine is_load rfl ?_; refine wl_ev rfl (by first | exact c_ld H rfl rfl | exact c_ld0 H rfl rfl | exact c_ldz H rfl rfl | exact c_ldr H rfl rfl | exact c_ln H rfl rfl | exact c_lnp H rfl rfl | exact c_lnz H rfl rfl | exact c_lnr H rfl rfl) ?_) | (refine is_cmp rfl rfl ?_; first | (refine wl_ev rfl (by first | exact ev_cmpT rfl rfl rfl rfl | exact ev_cmpF rfl rfl rfl rfl | exact c_bNe rfl rfl rfl Try.underlying4 | exact c_bEq rfl rfl rfl Try.underlying4 | exact c_peq rfl rfl | exact c_pne rfl rfl) ?_) | (refine wl_cmp rfl rfl rfl rfl rfl (fun h => ?_) (fun h => ?_) <;> (simp only [cmpP] at h))) | (refine is_indexAddr rfl ?_; refine wl_ev rfl (c_ix rfl rfl rfl) ?_)) <;> (simp only [nrm, ↓reduceIte, Nat.reduceAdd])) | ((first | (refine is_make rfl ?_; refine wl_rw rfl (fun K hK => c_mk H rfl rfl rfl (h := (fun g w1 hg hf H1 => hK _ _ ?_)))) | (refine is_store rfl ?_; first | (refine wl_rw rfl (fun K hK => c_st H rfl rfl rfl (h := (fun w1 hf H1 => hK _ _ ?_)))) | (refine wl_rw rfl (fun K hK => c_stc H rfl rfl (h := (fun w1 hf H1 => hK _ _ ?_)))))); (clear hK K); (clear H; have H := H1; clear H1; (try dsimp only at H); (try clear hf)); (simp only [nrm, ↓reduceIte, Nat.reduceAdd])))
      (refine bodyPost_ret (results_tmp rfl _ _ _) rfl ?_)
      exact ⟨rfl, hfr0.out.trans H.fr⟩
theorem poolResumes_walk {H : Type} {enc : TypeId × Value → H} {W : World} {base : Nat} {d0 d3 d4 d6 : DataW H} {p0 p3 p4 p6 : List MemPlace} (v0 : Value) (k0 : DataW.Trod enc Try.prog W 0 (fun _ => true) true 23 v0 d0 p0) (o0 : Value.okWide Try.prog W .any base 23 v0) (a1 : Int) (_w1 : (Lit.int .i64 a1).wf = true) (a2 : Int) (_w2 : (Lit.int .i64 a2).wf = true)
    (v3 : Value) (k3 : DataW.Trod enc Try.prog W 0 (fun _ => true) true 44 v3 d3 p3) (o3 : Value.okWide Try.prog W .any base 44 v3) (v4 : Value) (k4 : DataW.Trod enc Try.prog W 0 (fun _ => true) true 44 v4 d4 p4) (o4 : Value.okWide Try.prog W .any base 44 v4) (a5 : Bool)
    (v6 : Value) (k6 : DataW.Trod enc Try.prog W 0 (fun _ => true) true 36 v6 d6 p6) (o6 : Value.okWide Try.prog W .any base 36 v6) (_W : World) :
    Calls Try.prog 7 #[v0, .int .i64 a1, .int .i64 a2, v3, v4, .bool a5, v6] W fun e W' => e = .returned (.bool true) ∧ Fr [] W W' := by
  obtain ⟨raw, h1, h2⟩ := arg_u64s v0 k0 o0
  obtain ⟨fin, h3⟩ := arg_boolsV v3 k3 o3
  obtain ⟨bro, h4⟩ := arg_boolsV v4 k4 o4
  obtain ⟨l, h6⟩ := arg_pairs v6 k6 o6
  exact poolResumes_any v0 raw a1 a2 v3 v4 fin bro a5 v6 l W h1 h2 h3 h4 h6
namespace poolResumes
open Go.ChangeShapes Go.WideShapes Go.ChangeAt Go.RowKit
theorem own : ownKnob Try.prog.godebug = none := by kernel_rfl
theorem laidOut : laidOutB Try.prog = true := by kernel_rfl
set_option maxRecDepth 100000 in
theorem lifted (os : Os) (started : os.Started) (H : Type) (enc : TypeId × Value → H) :
    ReturnsInHanded {} Try.checked os 7 .any (Rows.poolResumesSpec.pre6 enc Try.prog Try.f7 Rows.poolResumesRow.domain false) (Rows.poolResumesSpec.post enc Try.prog Try.f7 false true false false) := by
  refine returnsInHanded_of_change (C := Try.checked) own started (by kernel_rfl) Try.func7
    (ChangeSpec.witness6 (enc := enc) (C := Try.checked) false ⟨#[], #[.slice none 0 0, .int .i64 0, .int .i64 0, .slice none 0 0, .slice none 0 0, .bool false, .slice none 0 0], []⟩ 8 (by kernel_rfl) (by kernel_rfl) (by kernel_rfl) (by kernel_rfl)) ?_
  intro W base args ds gs before hval0 hW hcnd _
  have hval : ∀ (j : Nat) t v, Try.f7.params[j]? = some t → args[j]? = some v → Value.okWide Try.prog W .any base t v := hval0
  have hW' := hW
  obtain ⟨p, q, hA0, hV, rfl, hfz, hnd⟩ := hW
  have hA : DataW.TrodAll enc Try.prog W 0 (fun _ => true) true Try.f7.params.toList args.toList ds p := hA0
  rw [Try.params7] at hA hval
  obtain ⟨v0, vs0, d0, ds0, p0, q0, hargs, rfl, rfl, h0, r0⟩ := trodAll_cons hA
  obtain ⟨v1, vs1, d1, ds1, p1, q1, rfl, rfl, rfl, h1, r1⟩ := trodAll_cons r0
  obtain ⟨v2, vs2, d2, ds2, p2, q2, rfl, rfl, rfl, h2, r2⟩ := trodAll_cons r1
  obtain ⟨v3, vs3, d3, ds3, p3, q3, rfl, rfl, rfl, h3, r3⟩ := trodAll_cons r2
  obtain ⟨v4, vs4, d4, ds4, p4, q4, rfl, rfl, rfl, h4, r4⟩ := trodAll_cons r3
  obtain ⟨v5, vs5, d5, ds5, p5, q5, rfl, rfl, rfl, h5, r5⟩ := trodAll_cons r4
  obtain ⟨v6, vs6, d6, ds6, p6, q6, rfl, rfl, rfl, h6, r6⟩ := trodAll_cons r5
  obtain ⟨rfl, rfl, rfl⟩ := trodAll_nil r6
  obtain rfl : args = #[v0, v1, v2, v3, v4, v5, v6] := by cases args; simp_all
  obtain ⟨rfl, rfl⟩ := trodVars_none hV
  have k0 := h0
  have lt0 : ∀ x ∈ p0, x.block < W.heap.size := by obtain ⟨m, hm⟩ := k0; exact DataW.trod_lt m _ _ _ hm
  have o0 := hval 0 23 v0 rfl rfl
  obtain ⟨a1, rfl, rfl, rfl, w1⟩ := open_int Try.underlying3 (hval 1 3 v1 rfl rfl) h1
  obtain ⟨a2, rfl, rfl, rfl, w2⟩ := open_int Try.underlying3 (hval 2 3 v2 rfl rfl) h2
  have k3 := h3
  have lt3 : ∀ x ∈ p3, x.block < W.heap.size := by obtain ⟨m, hm⟩ := k3; exact DataW.trod_lt m _ _ _ hm
  have o3 := hval 3 44 v3 rfl rfl
  have k4 := h4
  have lt4 : ∀ x ∈ p4, x.block < W.heap.size := by obtain ⟨m, hm⟩ := k4; exact DataW.trod_lt m _ _ _ hm
  have o4 := hval 4 44 v4 rfl rfl
  obtain ⟨a5, rfl, rfl, rfl⟩ := open_bool Try.underlying4 (hval 5 4 v5 rfl rfl) h5
  have k6 := h6
  have lt6 : ∀ x ∈ p6, x.block < W.heap.size := by obtain ⟨m, hm⟩ := k6; exact DataW.trod_lt m _ _ _ hm
  have o6 := hval 6 36 v6 rfl rfl
  clear hA0 hval0
  refine (poolResumes_walk v0 k0 o0 a1 w1 a2 w2 v3 k3 o3 v4 k4 o4 a5 v6 k6 o6 W).mono fun e W' ⟨he, fr⟩ => ?_
  subst he
  have bel := fr.below
  exact ⟨_, rfl, _, _, _, [], _, [], hW', trodAll_mk1 (shut_bool Try.underlying4 _), (trodAll_cons_mk (Below.trod laidOut (by kernel_rfl) (of_decide_eq_true (by kernel_rfl)) k0 bel lt0) (trodAll_cons_mk (shut_int Try.underlying3 w1) (trodAll_cons_mk (shut_int Try.underlying3 w2) (trodAll_cons_mk (Below.trod laidOut (by kernel_rfl) (of_decide_eq_true (by kernel_rfl)) k3 bel lt3) (trodAll_cons_mk (Below.trod laidOut (by kernel_rfl) (of_decide_eq_true (by kernel_rfl)) k4 bel lt4) (trodAll_cons_mk (shut_bool Try.underlying4 a5) (trodAll_cons_mk (Below.trod laidOut (by kernel_rfl) (of_decide_eq_true (by kernel_rfl)) k6 bel lt6) trodAll_mk0))))))), rfl, bel.frame _, fun h => by cases h⟩

theorem proved : Rows.PoolResumesSaid :=
  OpenClaim.holds_of_wide 7 Try.f7 rfl rfl rfl rfl rfl rfl rfl ⟨rfl, rfl, rfl, rfl, rfl⟩ rfl rfl rfl rfl rfl (by kernel_rfl) Try.func7 (by kernel_rfl)
    (of_decide_eq_true (by kernel_rfl)) (by unfold Func.isWrapper; first | (rw [if_pos (by decide +kernel)]; kernel_rfl) | (rw [if_neg (by decide +kernel)]; exact ⟨rfl, rfl⟩))
    (fun os started H enc _ => lifted os started H enc)
end poolResumes
end Go.Proofs.Ythlhjjokodmihaa
