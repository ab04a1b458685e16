/-
  For every input the law PoolFollows returns true: a pool of at most 10 tasks and 4 workers is in the document's state after each of at most 40 calls. No condition.
-/
import Derived.Test.YthlhjjokodmihaaRw2
import Derived.Test.YthlhjjokodmihaaRw3
import Derived.ProofKit
import Derived.OpenShut
import Derived.ShutString
import Derived.ChangeOld
import Derived.Below
namespace Go.Proofs.Ythlhjjokodmihaa
open Go.RowKit
set_option linter.unusedSimpArgs false
set_option linter.unusedVariables false
set_option maxHeartbeats 40000000 in
set_option maxRecDepth 100000 in
theorem poolFollows_any (v0 : Value) (raw : List Int) (n0 k0 : Int) (v3 : Value) (l : List (Int × Int)) (w : World) (hr : SArg w v0 raw.length (u64s raw)) (hb : ∀ x ∈ raw, 0 ≤ x ∧ x < 18446744073709551616) (hA : SArg w v3 l.length (l.flatMap pairV)) :
    Calls Try.prog 6 #[v0, .int .i64 n0, .int .i64 k0, v3] w fun e w' => e = .returned (.bool true) ∧ Fr [] w w' := by
  have H := Hp.start [] w
  have hA' := hA
  obtain ⟨p, c, rfl, hp, hlc, hcm, hrd⟩ := hA'
  have hrd0 := hrd w (Fr.refl _ _)
  clear hrd
  by_cases h40 : 40 < l.length
  · clear hA hr hb hrd0
    go_enter Try.func6, Try.ntmps6
    go_wp2_with (first | ((first | (refine is_load rfl ?_; refine wl_ev rfl (by first | exact c_ld H rfl rfl | exact c_ld0 H rfl rfl | exact c_ldz H rfl rfl | exact c_ldr H rfl rfl | exact c_ln H rfl rfl | exact c_lnp H rfl rfl | exact c_lnz H rfl rfl | exact c_lnr H rfl rfl) ?_) | (refine is_cmp rfl rfl ?_; first | (refine wl_ev rfl (by first | exact ev_cmpT rfl rfl rfl rfl | exact ev_cmpF rfl rfl rfl rfl | exact c_peq rfl rfl | exact c_pne rfl rfl) ?_) | (refine wl_cmp rfl rfl rfl rfl rfl (fun h => ?_) (fun h => ?_) <;> (simp only [cmpP] at h))) | (refine is_indexAddr rfl ?_; refine wl_ev rfl (c_ix rfl rfl rfl) ?_)) <;> (simp only [nrm, ↓reduceIte, Nat.reduceAdd]))  )
    (refine Calls.mono (awake33_any _) ?_; rintro e w1 ⟨rfl, hF⟩)
    go_wp2_with (first | ((first | (refine is_load rfl ?_; refine wl_ev rfl (by first | exact c_ld H rfl rfl | exact c_ld0 H rfl rfl | exact c_ldz H rfl rfl | exact c_ldr H rfl rfl | exact c_ln H rfl rfl | exact c_lnp H rfl rfl | exact c_lnz H rfl rfl | exact c_lnr H rfl rfl) ?_) | (refine is_cmp rfl rfl ?_; first | (refine wl_ev rfl (by first | exact ev_cmpT rfl rfl rfl rfl | exact ev_cmpF rfl rfl rfl rfl | exact c_peq rfl rfl | exact c_pne rfl rfl) ?_) | (refine wl_cmp rfl rfl rfl rfl rfl (fun h => ?_) (fun h => ?_) <;> (simp only [cmpP] at h))) | (refine is_indexAddr rfl ?_; refine wl_ev rfl (c_ix rfl rfl rfl) ?_)) <;> (simp only [nrm, ↓reduceIte, Nat.reduceAdd]))  )
    (refine bodyPost_ret (results_tmp rfl _ _ _) rfl ?_)
    exact ⟨rfl, hF⟩
  have Hrd := hid hrd0
  have Hr := hid hr
  have Hb := hid hb
  clear hrd0 hA hr hb hp
  go_enter Try.func6, Try.ntmps6
  go_wp2_with (first | ((first | (refine is_load rfl ?_; refine wl_ev rfl (by first | exact c_ld H rfl rfl | exact c_ld0 H rfl rfl | exact c_ldz H rfl rfl | exact c_ldr H rfl rfl | exact c_ln H rfl rfl | exact c_lnp H rfl rfl | exact c_lnz H rfl rfl | exact c_lnr H rfl rfl) ?_) | (refine is_cmp rfl rfl ?_; first | (refine wl_ev rfl (by first | exact ev_cmpT rfl rfl rfl rfl | exact ev_cmpF rfl rfl rfl rfl | exact c_peq rfl rfl | exact c_pne rfl rfl) ?_) | (refine wl_cmp rfl rfl rfl rfl rfl (fun h => ?_) (fun h => ?_) <;> (simp only [cmpP] at h))) | (refine is_indexAddr rfl ?_; refine wl_ev rfl (c_ix rfl rfl rfl) ?_)) <;> (simp only [nrm, ↓reduceIte, Nat.reduceAdd]))  )
  refine Calls.mono (forest_any raw n0 k0 Hr.out Hb.out) ?_
  rintro e w1 ⟨par, own, k, g1, c1, g2, c2, pad1, pad2, rfl, hF, HF, hol, hpl, hk1, hk4, hck⟩
  clear H hF
  have H := HF
  clear HF
  have Hck := hid hck
  have Hol := hid hol
  clear hck hol
  go_wp2_with (first | ((first | (refine is_load rfl ?_; refine wl_ev rfl (by first | exact c_ld H rfl rfl | exact c_ld0 H rfl rfl | exact c_ldz H rfl rfl | exact c_ldr H rfl rfl | exact c_ln H rfl rfl | exact c_lnp H rfl rfl | exact c_lnz H rfl rfl | exact c_lnr H rfl rfl) ?_) | (refine is_cmp rfl rfl ?_; first | (refine wl_ev rfl (by first | exact ev_cmpT rfl rfl rfl rfl | exact ev_cmpF rfl rfl rfl rfl | exact c_peq rfl rfl | exact c_pne rfl rfl) ?_) | (refine wl_cmp rfl rfl rfl rfl rfl (fun h => ?_) (fun h => ?_) <;> (simp only [cmpP] at h))) | (refine is_indexAddr rfl ?_; refine wl_ev rfl (c_ix rfl rfl rfl) ?_)) <;> (simp only [nrm, ↓reduceIte, Nat.reduceAdd]))  )
  refine Calls.mono (new_anyN par own k Hol.out (H.rd (b := g1) (off := 0) (vs := ints par) (List.prefix_append _ _)) (by simp) (by omega) (H.rd (b := g2) (off := 0) (vs := ints own) (List.prefix_append _ _)) (by simp) (by omega)) ?_
  rintro e w1 ⟨v, rfl, hF, hres⟩
  rw [Hck.out] at hres ⊢
  obtain ⟨_, A, rfl, hP, hfresh⟩ := hres.resolve_right (fun h => h.1 rfl)
  have H1 := H.new (w' := w1) A.b hF (show PoolAt A (newS par own k) A.S w1 from hP.o) hfresh
  clear H hF hres hP hfresh
  have H := H1
  clear H1
  go_wp2_with (first | ((first | (refine is_load rfl ?_; refine wl_ev rfl (by first | exact c_ld H rfl rfl | exact c_ld0 H rfl rfl | exact c_ldz H rfl rfl | exact c_ldr H rfl rfl | exact c_ln H rfl rfl | exact c_lnp H rfl rfl | exact c_lnz H rfl rfl | exact c_lnr H rfl rfl) ?_) | (refine is_cmp rfl rfl ?_; first | (refine wl_ev rfl (by first | exact ev_cmpT rfl rfl rfl rfl | exact ev_cmpF rfl rfl rfl rfl | exact c_peq rfl rfl | exact c_pne rfl rfl) ?_) | (refine wl_cmp rfl rfl rfl rfl rfl (fun h => ?_) (fun h => ?_) <;> (simp only [cmpP] at h))) | (refine is_indexAddr rfl ?_; refine wl_ev rfl (c_ix rfl rfl rfl) ?_)) <;> (simp only [nrm, ↓reduceIte, Nat.reduceAdd]))  )
  refine Calls.mono (new33_any par own k Hol.out (H.rd (b := g1) (off := 0) (vs := ints par) (List.prefix_append _ _)) (by omega) (H.rd (b := g2) (off := 0) (vs := ints own) (List.prefix_append _ _)) (by omega)) ?_
  rintro e w1 ⟨v, rfl, hF, hres⟩
  rw [Hck.out] at hres ⊢
  obtain ⟨_, D, rfl, hD, hfresh⟩ := hres.resolve_right (fun h => h rfl)
  have H1 := H.new (w' := w1) D.b hF (show DAt D (newS par own k) D.S w1 from hD.o) hfresh
  clear H hF hres hD hfresh
  have H := H1
  clear H1
  have HJ : Hid (PJ (newS par own k)) := hid (PJ_resume (by rw [new_err]; exact Hck.out))
  generalize newS par own k = s0 at H HJ
  go_wp2_with (first | ((first | (refine is_load rfl ?_; refine wl_ev rfl (by first | exact c_ld H rfl rfl | exact c_ld0 H rfl rfl | exact c_ldz H rfl rfl | exact c_ldr H rfl rfl | exact c_ln H rfl rfl | exact c_lnp H rfl rfl | exact c_lnz H rfl rfl | exact c_lnr H rfl rfl) ?_) | (refine is_cmp rfl rfl ?_; first | (refine wl_ev rfl (by first | exact ev_cmpT rfl rfl rfl rfl | exact ev_cmpF rfl rfl rfl rfl | exact c_peq rfl rfl | exact c_pne rfl rfl) ?_) | (refine wl_cmp rfl rfl rfl rfl rfl (fun h => ?_) (fun h => ?_) <;> (simp only [cmpP] at h))) | (refine is_indexAddr rfl ?_; refine wl_ev rfl (c_ix rfl rfl rfl) ?_)) <;> (simp only [nrm, ↓reduceIte, Nat.reduceAdd]))  )
  (refine Calls.mono (same_any (H.pool A.b) (H.dpool D.b) HJ.out) ?_; rintro e w1 ⟨rfl, hF⟩; have H1 := H.step hF (by simp); clear H; have H := H1; clear H1)
  go_wp2_with (first | ((first | (refine is_load rfl ?_; refine wl_ev rfl (by first | exact c_ld H rfl rfl | exact c_ld0 H rfl rfl | exact c_ldz H rfl rfl | exact c_ldr H rfl rfl | exact c_ln H rfl rfl | exact c_lnp H rfl rfl | exact c_lnz H rfl rfl | exact c_lnr H rfl rfl) ?_) | (refine is_cmp rfl rfl ?_; first | (refine wl_ev rfl (by first | exact ev_cmpT rfl rfl rfl rfl | exact ev_cmpF rfl rfl rfl rfl | exact c_peq rfl rfl | exact c_pne rfl rfl) ?_) | (refine wl_cmp rfl rfl rfl rfl rfl (fun h => ?_) (fun h => ?_) <;> (simp only [cmpP] at h))) | (refine is_indexAddr rfl ?_; refine wl_ev rfl (c_ix rfl rfl rfl) ?_)) <;> (simp only [nrm, ↓reduceIte, Nat.reduceAdd]))  )
  go_loopw [16] (fun s16 wr => ∃ (i : Nat) (s : PS), i ≤ l.length ∧ s16 = .int .i64 i ∧ Hid (PJ s) ∧ Hp [] w wr [.obj A.b A.S (PoolAt A s A.S), .obj D.b D.S (DAt D s D.S)]) (fun u _ => l.length - (intOf u).toNat)
  case atStart => exact ⟨0, s0, Nat.zero_le _, rfl, HJ, by (refine Hp.arr H ?_; repeat (first | exact Pm.nil _ | (apply Pm.cons; · (repeat first | exact Rm.here _ | apply Rm.there))))⟩
  case round =>
    clear H HJ
    obtain ⟨i, s, hi, rfl, HJ, H⟩ := hrel
    by_cases hin : i < l.length
    · obtain ⟨d, hd⟩ : ∃ d, l[i]? = some d := ⟨_, List.getElem?_eq_getElem hin⟩
      have hpc : pairV d <+: (l.flatMap pairV).drop (i * 2) := piece_flat pairV 2 l i d (fun _ _ => rfl) hd
      obtain ⟨b0, off, rfl, hb0, hcell⟩ := Hrd.out.rng (by intro h; have := hpc.length_le; rw [h] at this; simp [pairV] at this)
      have H1 := H.pushRng (b := b0) (off := off) (cs := l.flatMap pairV) hb0 (by simp) hcell
      clear H hcell
      have H := H1
      clear H1
      have hpc2 : [Value.int .i64 d.1, Value.int .i64 d.2] <+: (l.flatMap pairV).drop (i * 2) := hpc
      clear hd hpc
      go_wp2_with (first | ((first | (refine is_load rfl ?_; refine wl_ev rfl (by first | exact c_ld H rfl rfl | exact c_ld0 H rfl rfl | exact c_ldz H rfl rfl | exact c_ldr H rfl rfl | exact c_ln H rfl rfl | exact c_lnp H rfl rfl | exact c_lnz H rfl rfl | exact c_lnr H rfl rfl) ?_) | (refine is_cmp rfl rfl ?_; first | (refine wl_ev rfl (by first | exact ev_cmpT rfl rfl rfl rfl | exact ev_cmpF rfl rfl rfl rfl | exact c_peq rfl rfl | exact c_pne rfl rfl) ?_) | (refine wl_cmp rfl rfl rfl rfl rfl (fun h => ?_) (fun h => ?_) <;> (simp only [cmpP] at h))) | (refine is_indexAddr rfl ?_; refine wl_ev rfl (c_ix rfl rfl rfl) ?_)) <;> (simp only [nrm, ↓reduceIte, Nat.reduceAdd]))  )
      refine Calls.mono (does_any (H.pool A.b) (H.dpool D.b) HJ.out (two_apart (H.sub (l' := [.obj A.b A.S (PoolAt A s A.S), .obj D.b D.S (DAt D s D.S)]) (by repeat first | exact List.Sublist.refl _ | exact List.nil_sublist _ | apply List.Sublist.cons_cons | apply List.Sublist.cons))) d.1 d.2) ?_
      rintro e w1 ⟨rfl, hF, s', J', hP, hD⟩
      have H2 := H.sub (l' := [.obj A.b A.S (PoolAt A s A.S), .obj D.b D.S (DAt D s D.S)]) (by repeat first | exact List.Sublist.refl _ | exact List.nil_sublist _ | apply List.Sublist.cons_cons | apply List.Sublist.cons)
      have H1 := H2.upd2 (w' := w1) (S1' := A.S) (S2' := D.S) hF hP.o hD.o (fun x hx => .inl (List.mem_append_left _ hx)) (fun x hx => .inl (List.mem_append_right _ hx)) (two_apart H2)
      have HJ' := hid J'
      clear H H2 hF hP hD J'
      have H := H1
      clear H1
      go_wp2_with (first | ((first | (refine is_load rfl ?_; refine wl_ev rfl (by first | exact c_ld H rfl rfl | exact c_ld0 H rfl rfl | exact c_ldz H rfl rfl | exact c_ldr H rfl rfl | exact c_ln H rfl rfl | exact c_lnp H rfl rfl | exact c_lnz H rfl rfl | exact c_lnr H rfl rfl) ?_) | (refine is_cmp rfl rfl ?_; first | (refine wl_ev rfl (by first | exact ev_cmpT rfl rfl rfl rfl | exact ev_cmpF rfl rfl rfl rfl | exact c_peq rfl rfl | exact c_pne rfl rfl) ?_) | (refine wl_cmp rfl rfl rfl rfl rfl (fun h => ?_) (fun h => ?_) <;> (simp only [cmpP] at h))) | (refine is_indexAddr rfl ?_; refine wl_ev rfl (c_ix rfl rfl rfl) ?_)) <;> (simp only [nrm, ↓reduceIte, Nat.reduceAdd]))  )
      (refine Calls.mono (same_any (H.pool A.b) (H.dpool D.b) HJ'.out) ?_; rintro e w1 ⟨rfl, hF⟩; have H1 := H.step hF (by simp); clear H; have H := H1; clear H1)
      go_wp2_with (first | ((first | (refine is_load rfl ?_; refine wl_ev rfl (by first | exact c_ld H rfl rfl | exact c_ld0 H rfl rfl | exact c_ldz H rfl rfl | exact c_ldr H rfl rfl | exact c_ln H rfl rfl | exact c_lnp H rfl rfl | exact c_lnz H rfl rfl | exact c_lnr H rfl rfl) ?_) | (refine is_cmp rfl rfl ?_; first | (refine wl_ev rfl (by first | exact ev_cmpT rfl rfl rfl rfl | exact ev_cmpF rfl rfl rfl rfl | exact c_peq rfl rfl | exact c_pne rfl rfl) ?_) | (refine wl_cmp rfl rfl rfl rfl rfl (fun h => ?_) (fun h => ?_) <;> (simp only [cmpP] at h))) | (refine is_indexAddr rfl ?_; refine wl_ev rfl (c_ix rfl rfl rfl) ?_)) <;> (simp only [nrm, ↓reduceIte, Nat.reduceAdd]))  )
      go_roundw
      case rel => exact ⟨i + 1, s', by omega, by go_num, HJ', H⟩
      case measure => simp [intOf]; omega
    · go_wp2_with (first | ((first | (refine is_load rfl ?_; refine wl_ev rfl (by first | exact c_ld H rfl rfl | exact c_ld0 H rfl rfl | exact c_ldz H rfl rfl | exact c_ldr H rfl rfl | exact c_ln H rfl rfl | exact c_lnp H rfl rfl | exact c_lnz H rfl rfl | exact c_lnr H rfl rfl) ?_) | (refine is_cmp rfl rfl ?_; first | (refine wl_ev rfl (by first | exact ev_cmpT rfl rfl rfl rfl | exact ev_cmpF rfl rfl rfl rfl | exact c_peq rfl rfl | exact c_pne rfl rfl) ?_) | (refine wl_cmp rfl rfl rfl rfl rfl (fun h => ?_) (fun h => ?_) <;> (simp only [cmpP] at h))) | (refine is_indexAddr rfl ?_; refine wl_ev rfl (c_ix rfl rfl rfl) ?_)) <;> (simp only [nrm, ↓reduceIte, Nat.reduceAdd]))  )
      (refine Calls.mono (awake33_any _) ?_; rintro e w1 ⟨rfl, hF⟩; have H1 := H.step hF (by simp); clear H; have H := H1; clear H1)
      go_wp2_with (first | ((first | (refine is_load rfl ?_; refine wl_ev rfl (by first | exact c_ld H rfl rfl | exact c_ld0 H rfl rfl | exact c_ldz H rfl rfl | exact c_ldr H rfl rfl | exact c_ln H rfl rfl | exact c_lnp H rfl rfl | exact c_lnz H rfl rfl | exact c_lnr H rfl rfl) ?_) | (refine is_cmp rfl rfl ?_; first | (refine wl_ev rfl (by first | exact ev_cmpT rfl rfl rfl rfl | exact ev_cmpF rfl rfl rfl rfl | exact c_peq rfl rfl | exact c_pne rfl rfl) ?_) | (refine wl_cmp rfl rfl rfl rfl rfl (fun h => ?_) (fun h => ?_) <;> (simp only [cmpP] at h))) | (refine is_indexAddr rfl ?_; refine wl_ev rfl (c_ix rfl rfl rfl) ?_)) <;> (simp only [nrm, ↓reduceIte, Nat.reduceAdd]))  )
      (refine bodyPost_ret (results_tmp rfl _ _ _) rfl ?_)
      exact ⟨rfl, H.fr⟩
theorem poolFollows_walk {H : Type} {enc : TypeId × Value → H} {W : World} {base : Nat} {d0 d3 : DataW H} {p0 p3 : List MemPlace} (v0 : Value) (k0 : DataW.Trod enc Try.prog W 0 (fun _ => true) true 23 v0 d0 p0) (o0 : Value.okWide Try.prog W .any base 23 v0) (a1 : Int) (_w1 : (Lit.int .i64 a1).wf = true) (a2 : Int) (_w2 : (Lit.int .i64 a2).wf = true)
    (v3 : Value) (k3 : DataW.Trod enc Try.prog W 0 (fun _ => true) true 36 v3 d3 p3) (o3 : Value.okWide Try.prog W .any base 36 v3) (_W : World) :
    Calls Try.prog 6 #[v0, .int .i64 a1, .int .i64 a2, v3] W fun e W' => e = .returned (.bool true) ∧ Fr [] W W' := by
  obtain ⟨raw, h1, h2⟩ := arg_u64s v0 k0 o0
  obtain ⟨l, h3⟩ := arg_pairs v3 k3 o3
  exact poolFollows_any v0 raw a1 a2 v3 l W h1 h2 h3
namespace poolFollows
open Go.ChangeShapes Go.WideShapes Go.ChangeAt Go.RowKit
theorem own : ownKnob Try.prog.godebug = none := by kernel_rfl
theorem laidOut : laidOutB Try.prog = true := by kernel_rfl
set_option maxRecDepth 100000 in
theorem lifted (os : Os) (started : os.Started) (H : Type) (enc : TypeId × Value → H) :
    ReturnsInHanded {} Try.checked os 6 .any (Rows.poolFollowsSpec.pre6 enc Try.prog Try.f6 Rows.poolFollowsRow.domain false) (Rows.poolFollowsSpec.post enc Try.prog Try.f6 false true false false) := by
  refine returnsInHanded_of_change (C := Try.checked) own started (by kernel_rfl) Try.func6
    (ChangeSpec.witness6 (enc := enc) (C := Try.checked) false ⟨#[], #[.slice none 0 0, .int .i64 0, .int .i64 0, .slice none 0 0], []⟩ 8 (by kernel_rfl) (by kernel_rfl) (by kernel_rfl) (by kernel_rfl)) ?_
  intro W base args ds gs before hval0 hW hcnd _
  have hval : ∀ (j : Nat) t v, Try.f6.params[j]? = some t → args[j]? = some v → Value.okWide Try.prog W .any base t v := hval0
  have hW' := hW
  obtain ⟨p, q, hA0, hV, rfl, hfz, hnd⟩ := hW
  have hA : DataW.TrodAll enc Try.prog W 0 (fun _ => true) true Try.f6.params.toList args.toList ds p := hA0
  rw [Try.params6] at hA hval
  obtain ⟨v0, vs0, d0, ds0, p0, q0, hargs, rfl, rfl, h0, r0⟩ := trodAll_cons hA
  obtain ⟨v1, vs1, d1, ds1, p1, q1, rfl, rfl, rfl, h1, r1⟩ := trodAll_cons r0
  obtain ⟨v2, vs2, d2, ds2, p2, q2, rfl, rfl, rfl, h2, r2⟩ := trodAll_cons r1
  obtain ⟨v3, vs3, d3, ds3, p3, q3, rfl, rfl, rfl, h3, r3⟩ := trodAll_cons r2
  obtain ⟨rfl, rfl, rfl⟩ := trodAll_nil r3
  obtain rfl : args = #[v0, v1, v2, v3] := by cases args; simp_all
  obtain ⟨rfl, rfl⟩ := trodVars_none hV
  have k0 := h0
  have lt0 : ∀ x ∈ p0, x.block < W.heap.size := by obtain ⟨m, hm⟩ := k0; exact DataW.trod_lt m _ _ _ hm
  have o0 := hval 0 23 v0 rfl rfl
  obtain ⟨a1, rfl, rfl, rfl, w1⟩ := open_int Try.underlying3 (hval 1 3 v1 rfl rfl) h1
  obtain ⟨a2, rfl, rfl, rfl, w2⟩ := open_int Try.underlying3 (hval 2 3 v2 rfl rfl) h2
  have k3 := h3
  have lt3 : ∀ x ∈ p3, x.block < W.heap.size := by obtain ⟨m, hm⟩ := k3; exact DataW.trod_lt m _ _ _ hm
  have o3 := hval 3 36 v3 rfl rfl
  clear hA0 hval0
  refine (poolFollows_walk v0 k0 o0 a1 w1 a2 w2 v3 k3 o3 W).mono fun e W' ⟨he, fr⟩ => ?_
  subst he
  have bel := fr.below
  exact ⟨_, rfl, _, _, _, [], _, [], hW', trodAll_mk1 (shut_bool Try.underlying4 _), (trodAll_cons_mk (Below.trod laidOut (by kernel_rfl) (of_decide_eq_true (by kernel_rfl)) k0 bel lt0) (trodAll_cons_mk (shut_int Try.underlying3 w1) (trodAll_cons_mk (shut_int Try.underlying3 w2) (trodAll_cons_mk (Below.trod laidOut (by kernel_rfl) (of_decide_eq_true (by kernel_rfl)) k3 bel lt3) trodAll_mk0)))), rfl, bel.frame _, fun h => by cases h⟩

theorem proved : Rows.PoolFollowsSaid :=
  OpenClaim.holds_of_wide 6 Try.f6 rfl rfl rfl rfl rfl rfl rfl ⟨rfl, rfl, rfl, rfl, rfl⟩ rfl rfl rfl rfl rfl (by kernel_rfl) Try.func6 (by kernel_rfl)
    (of_decide_eq_true (by kernel_rfl)) (by unfold Func.isWrapper; first | (rw [if_pos (by decide +kernel)]; kernel_rfl) | (rw [if_neg (by decide +kernel)]; exact ⟨rfl, rfl⟩))
    (fun os started H enc _ => lifted os started H enc)
end poolFollows
end Go.Proofs.Ythlhjjokodmihaa
