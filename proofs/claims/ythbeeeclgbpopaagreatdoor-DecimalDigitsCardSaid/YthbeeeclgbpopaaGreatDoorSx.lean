/-
  The steps of a walk, each in one word: what an operation yields is found by the rule's own default.
-/
import Derived.Test.YthbeeeclgbpopaaGreatDoorGen0
namespace Go.Proofs.YthbeeeclgbpopaaGreatDoor
open Go.RowKit
set_option linter.unusedSimpArgs false
set_option linter.unusedVariables false
section
variable {P : Program} {w : World} {a : Act} {o : Oper} {K : Act → World → Prop} {Q : Exit → Act → World → Prop}
class Bo (P : Program) (t : TypeId) : Prop where
  h : P.underlying t = some .bool
instance : Bo Tryz.prog 4 := ⟨Tryz.underlying4⟩
theorem c_bEq {t t' : TypeId} {x y : Operand} (ho : o.op = .binOp .eql t x y t') {p q r : Bool} (hx : a.eval x = .bool p) (hy : a.eval y = .bool q) [u : Bo P t] (hr : (p == q) = r := by rfl) : (execOp a.eval o).run P w = .ok (.value (.bool r)) w := by
  subst hr
  have e1 : (eqGuard .eql t x y (.bool p) (.bool q)).run P w = .ok () w := by unfold eqGuard; simp
  unfold execOp
  simp only [ho, hx, hy, Sem.run_bind, e1, Result.andThen_ok]
  have e2 : (Op.equal t (.bool p) (.bool q)).run P w = .ok (p == q) w := by
    unfold Op.equal Op.maxDepth
    rw [Op.equalIn]
    simp only [Sem.run_bind, run_underlying u.h, Result.andThen_ok]
    cases p <;> cases q <;> rfl
  have e3 : (binOp .eql t (.bool p) (.bool q)).run P w = .ok (.bool (p == q)) w := by
    show ((do pure (Value.bool (← Op.equal t (.bool p) (.bool q))) : Sem Value)).run P w = _
    simp only [Sem.run_bind, e2, Result.andThen_ok, Sem.run_pure]
  simp only [e3, Result.andThen_ok, Sem.run_pure]
theorem c_bNe {t t' : TypeId} {x y : Operand} (ho : o.op = .binOp .neq t x y t') {p q r : Bool} (hx : a.eval x = .bool p) (hy : a.eval y = .bool q) [u : Bo P t] (hr : (!(p == q)) = r := by rfl) : (execOp a.eval o).run P w = .ok (.value (.bool r)) w := by
  subst hr
  have e1 : (eqGuard .neq t x y (.bool p) (.bool q)).run P w = .ok () w := by unfold eqGuard; simp
  unfold execOp
  simp only [ho, hx, hy, Sem.run_bind, e1, Result.andThen_ok]
  have e2 : (Op.equal t (.bool p) (.bool q)).run P w = .ok (p == q) w := by
    unfold Op.equal Op.maxDepth
    rw [Op.equalIn]
    simp only [Sem.run_bind, run_underlying u.h, Result.andThen_ok]
    cases p <;> cases q <;> rfl
  have e3 : (binOp .neq t (.bool p) (.bool q)).run P w = .ok (.bool (!(p == q))) w := by
    show ((do pure (Value.bool (!(← Op.equal t (.bool p) (.bool q)))) : Sem Value)).run P w = _
    simp only [Sem.run_bind, e2, Result.andThen_ok, Sem.run_pure]
  simp only [e3, Result.andThen_ok, Sem.run_pure]
theorem c_sshA {t : TypeId} {x y : Operand} (ho : o.op = .slice t x none (some y) none) {q : Option Addr} {n c : Nat} (hx : a.eval x = .slice q n c) {e : TypeId} {z : List Value} {s by' : Nat} [h : Si P t e z s by'] {k : IntKind} {i : Int} (hy : a.eval y = .int k i) (h0 : 0 ≤ i := by omega) (h1 : i ≤ c := by omega) : (execOp a.eval o).run P w = .ok (.value (.slice q i.toNat c)) w := by
  obtain ⟨hu, ti, zv, h2, h3, h4, rfl, rfl⟩ := si_spec h.h
  unfold execOp
  have key : (Instr.sliceBounds true n c none (some (a.eval y)) none).run P w = .ok (0, i.toNat, c) w := by simp [Instr.sliceBounds, hy, run_bound h0 h1]
  simp only [ho, hx, Instr.sliceAt, Instr.slice, Sem.run_bind, run_underlying hu, Result.andThen_ok, Option.map_none, Option.map_some, key, sizeOf, typeInfo, run_program, h2, Sem.run_pure]
  have e1 : (if c = 0 then q else q.map (·.add (0 * z.length))) = q := by
    split
    · rfl
    · cases q <;> simp [Addr.add]
  simp
  cases q <;> simp [Addr.add]

end
section
variable {P : Program} {ops : Array Oper} {Q : Exit → Act → World → Prop} {w w0 : World} {rest : List Oper} {o : Oper} {T : List Nat} {l : List Ent} {L : List Value} {ds : List Deferred} {a : Act}
/-! Is it such an operation? (steps that do nothing) -/
theorem g_ld {t : TypeId} {x : Operand} {r : Result Next} (_ho : o.op = .load t x) (h : (execOp a.eval o).run P w = r) : (execOp a.eval o).run P w = r := h
theorem g_cm {op : BinOp} {t t' : TypeId} {x y : Operand} {r : Result Next} (_ho : o.op = .binOp op t x y t') (_hc : isCmp op = true) (h : (execOp a.eval o).run P w = r) : (execOp a.eval o).run P w = r := h
theorem g_sl {t : TypeId} {x : Operand} {l' h' m' : Option Operand} {r : Result Next} (_ho : o.op = .slice t x l' h' m') (h : (execOp a.eval o).run P w = r) : (execOp a.eval o).run P w = r := h
theorem g_cv {s d : TypeId} {x : Operand} {r : Result Next} (_ho : o.op = .convert s d x) (h : (execOp a.eval o).run P w = r) : (execOp a.eval o).run P w = r := h
/-! The frame behind an operation -/
def putL (L : List Value) : Option Nat → Value → List Value
  | some n, v => L.set n v
  | none, _ => L
theorem putL_s (L : List Value) (n : Nat) (v : Value) : putL L (some n) v = L.set n v := rfl
theorem putL_n (L : List Value) (v : Value) : putL L none v = L := rfl
theorem put_eq (d : Option Nat) (v : Value) : Act.put ⟨L.toArray, ds⟩ d v = ⟨(putL L d v).toArray, ds⟩ := by cases d <;> simp [Act.put, putL]

/-! Steps in order -/
theorem x_e {v : Value} {L' : List Value} (he : (execOp (Act.mk L.toArray ds).eval o).run P w = .ok (.value v) w) (h : wpList P ops Q rest ⟨L'.toArray, ds⟩ w)
    (hw : Region.wanted o (yielded ops L.toArray) = true := by rfl) (hs : putL L o.dst v = L' := by ((try simp only [nrm, putL_s, putL_n, ↓reduceIte, Nat.reduceAdd]); (try exact rfl))) : wpList P ops Q (o :: rest) ⟨L.toArray, ds⟩ w := by
  subst hs; exact wl_ev hw he (by rw [put_eq]; exact h)
theorem x_q (H : Hp T w0 w l) {v : Value} {L' : List Value} (h : wpList P ops Q rest ⟨L'.toArray, ds⟩ w)
    (hw : Region.wanted o (yielded ops L.toArray) = true := by rfl)
    (he : Hp T w0 w l → (execOp (Act.mk L.toArray ds).eval o).run P w = .ok (.value v) w := by
      intro H
      first
      | (refine g_ld rfl ?_; first | exact c_ld H rfl rfl | exact c_ld0 H rfl rfl | exact c_ldz H rfl rfl | exact c_ldr H rfl rfl | exact c_ln H rfl rfl | exact c_lnp H rfl rfl | exact c_lnz H rfl rfl | exact c_lnr H rfl rfl)
      | (refine g_cm rfl rfl ?_; first | exact ev_cmpT rfl rfl rfl rfl | exact ev_cmpF rfl rfl rfl rfl | exact c_bEq rfl rfl rfl | exact c_bNe rfl rfl rfl | exact c_peq rfl rfl | exact c_pne rfl rfl | exact c_seq rfl rfl | exact ev_strEq rfl rfl rfl | exact ev_strNe rfl rfl rfl)
      | exact c_ix rfl rfl rfl
      | (refine g_sl rfl ?_; first | exact c_ss rfl rfl | exact c_ssh rfl rfl rfl | exact c_sshA rfl rfl rfl | exact c_ssl rfl rfl rfl | exact c_sslh rfl rfl rfl rfl | exact c_sa rfl rfl | exact c_sah rfl rfl rfl)
      | (refine g_cv rfl ?_; first | exact c_cv rfl rfl | exact c_cv64 rfl rfl | exact c_cv32 rfl rfl | exact c_cv8 rfl rfl)
      | exact c_sta rfl
      | exact c_stp rfl
      | exact ev_quo rfl rfl rfl
      | exact ev_rem rfl rfl rfl)
    (hs : putL L o.dst v = L' := by ((try simp only [nrm, putL_s, putL_n, ↓reduceIte, Nat.reduceAdd]); (try exact rfl))) : wpList P ops Q (o :: rest) ⟨L.toArray, ds⟩ w := x_e (he H) h hw hs
theorem x_cm {op : BinOp} {t t' : TypeId} {x y : Operand} {k : IntKind} {m n : Int} {p q : Prop} {L1 L2 : List Value}
    (h1 : p → wpList P ops Q rest ⟨L1.toArray, ds⟩ w) (h0 : q → wpList P ops Q rest ⟨L2.toArray, ds⟩ w)
    (ho : o.op = .binOp op t x y t' := by rfl) (hc : isCmp op = true := by rfl) (hw : Region.wanted o (yielded ops L.toArray) = true := by rfl) (hx : (Act.mk L.toArray ds).eval x = .int k m := by rfl) (hy : (Act.mk L.toArray ds).eval y = .int k n := by rfl)
    (hp : cmpP op m n → p := by intro h; simp only [cmpP] at h; exact h) (hq : ¬ cmpP op m n → q := by intro h; simp only [cmpP] at h; exact h)
    (hs1 : putL L o.dst (.bool true) = L1 := by ((try simp only [nrm, putL_s, putL_n, ↓reduceIte, Nat.reduceAdd]); (try exact rfl))) (hs2 : putL L o.dst (.bool false) = L2 := by ((try simp only [nrm, putL_s, putL_n, ↓reduceIte, Nat.reduceAdd]); (try exact rfl))) : wpList P ops Q (o :: rest) ⟨L.toArray, ds⟩ w := by
  subst hs1 hs2
  exact wl_cmp hw ho hx hy hc (fun h => by rw [put_eq]; exact h1 (hp h)) (fun h => by rw [put_eq]; exact h0 (hq h))
/-- New memory: a variable, a row, a boxed value, a slice literal of one element. -/
theorem x_g {zs : List Value} {t : TypeId} {v : Nat → Value} {L' : Nat → List Value}
    (h : ∀ g w', w0.heap.size ≤ g ∧ w.heap.size ≤ g → Fr [] w w' → Hp T w0 w' (.blk g zs t :: l) → wpList P ops Q rest ⟨(L' g).toArray, ds⟩ w')
    (hw : Region.wanted o (yielded ops L.toArray) = true := by rfl)
    (he : Hp T w0 w l → ∀ K : Act → World → Prop, (∀ g w', w0.heap.size ≤ g ∧ w.heap.size ≤ g → Fr [] w w' → Hp T w0 w' (.blk g zs t :: l) → K (Act.put ⟨L.toArray, ds⟩ o.dst (v g)) w') → o.wp P ⟨L.toArray, ds⟩ w K Q := by
      intro H K hK
      first | exact c_al H rfl hK | exact c_mk H rfl rfl rfl (h := hK) | exact la_boxN H rfl rfl hK | exact la_box1 H rfl rfl rfl hK | exact c_s1t H rfl rfl rfl (h := hK) | exact c_s1c H rfl rfl (h := hK))
    (hs : ∀ g, putL L o.dst (v g) = L' g := by intro g; ((try simp only [nrm, putL_s, putL_n, ↓reduceIte, Nat.reduceAdd]); (try exact rfl))) (H : Hp T w0 w l) : wpList P ops Q (o :: rest) ⟨L.toArray, ds⟩ w :=
  wl_rw hw fun K hK => he H K fun g w' h1 h2 h3 => hK _ _ (by rw [put_eq, hs]; exact h g w' h1 h2 h3)
/-- A store. -/
theorem x_s {b : Nat} {l' : List Ent} {L' : List Value}
    (h : ∀ w', Fr [b] w w' → Hp T w0 w' l' → wpList P ops Q rest ⟨L'.toArray, ds⟩ w')
    (hw : Region.wanted o (yielded ops L.toArray) = true := by rfl)
    (he : Hp T w0 w l → ∀ K : Act → World → Prop, (∀ w', Fr [b] w w' → Hp T w0 w' l' → K (Act.put ⟨L.toArray, ds⟩ o.dst undef) w') → o.wp P ⟨L.toArray, ds⟩ w K Q := by
      intro H K hK
      first | exact c_st H rfl rfl rfl (h := hK) | exact c_stc H rfl rfl (h := hK) | exact c_stn H rfl rfl rfl (h := hK))
    (hs : putL L o.dst undef = L' := by ((try simp only [nrm, putL_s, putL_n, ↓reduceIte, Nat.reduceAdd]); (try exact rfl))) (H : Hp T w0 w l) : wpList P ops Q (o :: rest) ⟨L.toArray, ds⟩ w :=
  wl_rw hw fun K hK => he H K fun w' h2 h3 => hK _ _ (by rw [put_eq, hs]; exact h w' h2 h3)
/-- A call whose contract says that the old blocks stay. -/
theorem x_c (H : Hp T w0 w l) {f : FuncId} {args : Array Value} {R R' : Ending → World → Prop} (hc : Calls P f args w R) (h : ∀ e w', R e w' → Hp T w0 w' l → R' e w')
    (hR : ∀ e w', R e w' → Fr [] w w' := by
      intro e w' h
      first | exact h.2 | exact h.2.1 | (obtain ⟨_, h⟩ := h; first | exact h.2 | exact h.2.1 | (obtain ⟨_, h⟩ := h; first | exact h.2 | exact h.2.1 | (obtain ⟨_, h⟩ := h; first | exact h.2 | exact h.2.1 | (obtain ⟨_, h⟩ := h; first | exact h.2 | exact h.2.1 | (obtain ⟨_, h⟩ := h; first | exact h.2 | exact h.2.1)))))) : Calls P f args w R' :=
  Calls.mono hc fun e w' hr => h e w' hr (H.step (hR e w' hr) (by simp))

/-! Steps of a plan -/
section
variable {lo : List Oper} {S : World → Prop} {f i : Nat} {k : Plan}
theorem p_e {v : Value} {L' : List Value} (hi : lo[i]? = some o) (he : ∀ w, S w → (execOp (Act.mk L.toArray ds).eval o).run P w = .ok (.value v) w) (h : k.wp P lo.toArray Q S f ⟨L'.toArray, ds⟩ w)
    (hw : Region.wanted o (yielded lo.toArray L.toArray) = true := by rfl) (hs : putL L o.dst v = L' := by ((try simp only [nrm, putL_s, putL_n, ↓reduceIte, Nat.reduceAdd]); (try exact rfl))) : Plan.wp P lo.toArray Q S f (.st i k) ⟨L.toArray, ds⟩ w := by
  subst hs; exact pl_ev hi hw he (by rw [put_eq]; exact h)
theorem p_ef {v : Value} {L' : List Value} (hi : lo[i]? = some o) (he : ∀ w, True → (execOp (Act.mk L.toArray ds).eval o).run P w = .ok (.value v) w) (h : k.wp P lo.toArray Q S f ⟨L'.toArray, ds⟩ w)
    (hw : Region.wanted o (yielded lo.toArray L.toArray) = true := by rfl) (hs : putL L o.dst v = L' := by ((try simp only [nrm, putL_s, putL_n, ↓reduceIte, Nat.reduceAdd]); (try exact rfl))) : Plan.wp P lo.toArray Q S f (.stf i k) ⟨L.toArray, ds⟩ w := by
  subst hs; exact pl_evf hi hw he (by rw [put_eq]; exact h)
theorem p_n {L' : List Value} (h : k.wp P lo.toArray Q S f ⟨L'.toArray, ds⟩ w) (hi : lo[i]? = some o := by rfl)
    (hw : Region.wanted o (yielded lo.toArray L.toArray) = false := by rfl) (hs : putL L o.dst undef = L' := by ((try simp only [nrm, putL_s, putL_n, ↓reduceIte, Nat.reduceAdd]); (try exact rfl))) : Plan.wp P lo.toArray Q S f (.st i k) ⟨L.toArray, ds⟩ w := by
  subst hs; exact pl_no hi hw (by rw [put_eq]; exact h)
theorem p_q {v : Value} {L' : List Value} (h : k.wp P lo.toArray Q S f ⟨L'.toArray, ds⟩ w) (hi : lo[i]? = some o := by rfl)
    (hw : Region.wanted o (yielded lo.toArray L.toArray) = true := by rfl)
    (he : ∀ w, S w → (execOp (Act.mk L.toArray ds).eval o).run P w = .ok (.value v) w := by
      intro w H
      first
      | exact c_fa2 rfl rfl
      | exact c_fa rfl rfl
      | (refine g_ld rfl ?_; first | exact c_ld H rfl rfl | exact c_ld0 H rfl rfl | exact c_ldz H rfl rfl | exact c_ldr H rfl rfl | exact c_ln H rfl rfl | exact c_lnp H rfl rfl | exact c_lnz H rfl rfl | exact c_lnr H rfl rfl)
      | exact ev_moveT rfl rfl | exact ev_moveC rfl | exact ev_moveG rfl | exact ev_moveF rfl
      | exact ev_assignT rfl rfl | exact ev_assignC rfl
      | exact ev_nilCheck rfl rfl
      | (refine g_cm rfl rfl ?_; first | exact ev_cmpT rfl rfl rfl rfl | exact ev_cmpF rfl rfl rfl rfl | exact c_bEq rfl rfl rfl | exact c_bNe rfl rfl rfl | exact c_peq rfl rfl | exact c_pne rfl rfl | exact c_seq rfl rfl | exact ev_strEq rfl rfl rfl | exact ev_strNe rfl rfl rfl)
      | exact c_ix rfl rfl rfl
      | (refine g_sl rfl ?_; first | exact c_ss rfl rfl | exact c_ssh rfl rfl rfl | exact c_sshA rfl rfl rfl | exact c_ssl rfl rfl rfl | exact c_sslh rfl rfl rfl rfl | exact c_sa rfl rfl | exact c_sah rfl rfl rfl)
      | (refine g_cv rfl ?_; first | exact c_cv rfl rfl | exact c_cv64 rfl rfl | exact c_cv32 rfl rfl | exact c_cv8 rfl rfl)
      | exact c_len rfl rfl
      | exact c_sta rfl
      | exact c_stp rfl
      | exact ev_pickTC rfl rfl | exact ev_pickFT rfl rfl rfl | exact ev_pickFC rfl rfl | exact ev_pickTT rfl rfl rfl
      | exact ev_add rfl rfl rfl (by first | (simp only [inr]; omega) | assumption)
      | exact ev_sub rfl rfl rfl (by first | (simp only [inr]; omega) | assumption)
      | exact ev_mul rfl rfl rfl (by first | (simp only [inr]; omega) | assumption)
      | exact ev_extract rfl rfl rfl
      | exact ev_not rfl rfl
      | exact ev_quo rfl rfl rfl
      | exact ev_rem rfl rfl rfl)
    (hs : putL L o.dst v = L' := by ((try simp only [nrm, putL_s, putL_n, ↓reduceIte, Nat.reduceAdd]); (try exact rfl))) : Plan.wp P lo.toArray Q S f (.st i k) ⟨L.toArray, ds⟩ w := p_e hi he h hw hs
theorem p_qf {v : Value} {L' : List Value} (h : k.wp P lo.toArray Q S f ⟨L'.toArray, ds⟩ w) (hi : lo[i]? = some o := by rfl)
    (hw : Region.wanted o (yielded lo.toArray L.toArray) = true := by rfl)
    (he : ∀ w, True → (execOp (Act.mk L.toArray ds).eval o).run P w = .ok (.value v) w := by
      intro w H
      first | exact c_fa2 rfl rfl | exact c_fa rfl rfl | exact ev_moveT rfl rfl | exact ev_moveC rfl | exact ev_moveG rfl | exact ev_moveF rfl | exact ev_assignT rfl rfl | exact ev_assignC rfl | exact ev_nilCheck rfl rfl | exact c_len rfl rfl | exact c_sta rfl | exact ev_extract rfl rfl rfl)
    (hs : putL L o.dst v = L' := by ((try simp only [nrm, putL_s, putL_n, ↓reduceIte, Nat.reduceAdd]); (try exact rfl))) : Plan.wp P lo.toArray Q S f (.stf i k) ⟨L.toArray, ds⟩ w := p_ef hi he h hw hs
/-- New memory within a plan. -/
theorem p_g {zs : List Value} {t : TypeId} {v : Nat → Value} {L' : Nat → List Value}
    (h : ∀ g w', w0.heap.size ≤ g ∧ w.heap.size ≤ g → Fr [] w w' → Hp T w0 w' (.blk g zs t :: l) → k.wp P lo.toArray Q S f ⟨(L' g).toArray, ds⟩ w') (hi : lo[i]? = some o := by rfl)
    (hw : Region.wanted o (yielded lo.toArray L.toArray) = true := by rfl)
    (he : Hp T w0 w l → ∀ K : Act → World → Prop, (∀ g w', w0.heap.size ≤ g ∧ w.heap.size ≤ g → Fr [] w w' → Hp T w0 w' (.blk g zs t :: l) → K (Act.put ⟨L.toArray, ds⟩ o.dst (v g)) w') → o.wp P ⟨L.toArray, ds⟩ w K Q := by
      intro H K hK
      first | exact c_al H rfl hK | exact c_mk H rfl rfl rfl (h := hK) | exact la_boxN H rfl rfl hK | exact la_box1 H rfl rfl rfl hK | exact c_s1t H rfl rfl rfl (h := hK) | exact c_s1c H rfl rfl (h := hK))
    (hs : ∀ g, putL L o.dst (v g) = L' g := by intro g; ((try simp only [nrm, putL_s, putL_n, ↓reduceIte, Nat.reduceAdd]); (try exact rfl)))
    (hS : i ≠ f → ∀ g w', Hp T w0 w' (.blk g zs t :: l) → S w' := by intro hne g w' H1; first | exact absurd rfl hne | exact trivial | exact H1.sub (by repeat first | exact List.Sublist.refl _ | exact List.nil_sublist _ | apply List.Sublist.cons_cons | apply List.Sublist.cons))
    (H : Hp T w0 w l) : Plan.wp P lo.toArray Q S f (.ld i k) ⟨L.toArray, ds⟩ w :=
  pl_rw hi hw fun K hK => he H K fun g w' h1 h2 h3 => hK _ _ (fun hne => hS hne g w' h3) (by rw [put_eq, hs]; exact h g w' h1 h2 h3)
/-- A store within a plan. -/
theorem p_s {b : Nat} {l' : List Ent} {L' : List Value}
    (h : ∀ w', Fr [b] w w' → Hp T w0 w' l' → k.wp P lo.toArray Q S f ⟨L'.toArray, ds⟩ w') (hi : lo[i]? = some o := by rfl)
    (hw : Region.wanted o (yielded lo.toArray L.toArray) = true := by rfl)
    (he : Hp T w0 w l → ∀ K : Act → World → Prop, (∀ w', Fr [b] w w' → Hp T w0 w' l' → K (Act.put ⟨L.toArray, ds⟩ o.dst undef) w') → o.wp P ⟨L.toArray, ds⟩ w K Q := by
      intro H K hK
      first | exact c_st H rfl rfl rfl (h := hK) | exact c_stc H rfl rfl (h := hK) | exact c_stn H rfl rfl rfl (h := hK))
    (hs : putL L o.dst undef = L' := by ((try simp only [nrm, putL_s, putL_n, ↓reduceIte, Nat.reduceAdd]); (try exact rfl)))
    (hS : i ≠ f → ∀ w', Hp T w0 w' l' → S w' := by intro hne w' H1; first | exact absurd rfl hne | exact trivial | exact H1.sub (by repeat first | exact List.Sublist.refl _ | exact List.nil_sublist _ | apply List.Sublist.cons_cons | apply List.Sublist.cons))
    (H : Hp T w0 w l) : Plan.wp P lo.toArray Q S f (.ld i k) ⟨L.toArray, ds⟩ w :=
  pl_rw hi hw fun K hK => he H K fun w' h2 h3 => hK _ _ (fun hne => hS hne w' h3) (by rw [put_eq, hs]; exact h w' h2 h3)
/-- A call within a plan: what it returns goes into the frame. -/
theorem p_c (H : Hp T w0 w l) {fi : FuncId} {al : List Operand} {ats : Array TypeId} (hi : lo[i]? = some o) (ho : o.op = .call { callee := .value (.func fi), args := al.toArray, argTypes := ats }) {fn : Func} (hf : P.funcs[fi]? = some fn)
    {R : Ending → World → Prop} (hc : Calls P fi (al.map (Act.mk L.toArray ds).eval).toArray w R) (h : ∀ e w', R e w' → Hp T w0 w' l → ∃ v, e = .returned v ∧ k.wp P lo.toArray Q S f ⟨(putL L o.dst v).toArray, ds⟩ w')
    (hR : ∀ e w', R e w' → Fr [] w w' := by
      intro e w' h
      first | exact h.2 | exact h.2.1 | (obtain ⟨_, h⟩ := h; first | exact h.2 | exact h.2.1 | (obtain ⟨_, h⟩ := h; first | exact h.2 | exact h.2.1 | (obtain ⟨_, h⟩ := h; first | exact h.2 | exact h.2.1 | (obtain ⟨_, h⟩ := h; first | exact h.2 | exact h.2.1 | (obtain ⟨_, h⟩ := h; first | exact h.2 | exact h.2.1))))))
    (hS : i ≠ f → ∀ w', Hp T w0 w' l → S w' := by intro hne w' H1; first | exact absurd rfl hne | exact trivial | exact H1.sub (by repeat first | exact List.Sublist.refl _ | exact List.nil_sublist _ | apply List.Sublist.cons_cons | apply List.Sublist.cons))
    (hn : (fn.name == "runtime.NumGoroutine") = false := by kernel_rfl) (hb : fn.body.isNone = false := by rfl)
    (hw : Region.wanted o (yielded lo.toArray L.toArray) = true := by rfl) : Plan.wp P lo.toArray Q S f (.ld i k) ⟨L.toArray, ds⟩ w :=
  pl_rw hi hw fun K hK => rw_call ho hf hn hb hc fun e w' hr => by
    have H1 := H.step (hR e w' hr) (by simp)
    obtain ⟨v, hv, hk⟩ := h e w' hr H1
    exact ⟨v, hv, hK _ _ (fun hne => hS hne w' H1) (by rw [put_eq]; exact hk)⟩
theorem p_r {v : Value} {d : Option Nat} {L' : List Value} (h : k.wp P lo.toArray Q S f ⟨L'.toArray, ds⟩ w) (hs : putL L d v = L' := by ((try simp only [nrm, putL_s, putL_n, ↓reduceIte, Nat.reduceAdd]); (try exact rfl))) : ∃ u, Ending.returned v = .returned u ∧ k.wp P lo.toArray Q S f ⟨(putL L d u).toArray, ds⟩ w := by
  subst hs; exact ⟨v, rfl, h⟩
end
theorem w_p {id : Nat} {lS : List Ent} (f : Nat) (p : Plan) (h : ∀ w', Hp T w0 w' l → p.wp P ops Q (fun w => Hp T w0 w lS) f a w') (hs : List.Sublist lS l := by exact List.Sublist.refl _) (hm : P.follows .mixedOrders = true := by rfl) (hns : Region.noSelect ops = true := by kernel_rfl) (hc : p.chk ops f ops.size (Array.replicate ops.size false) = true := by kernel_rfl)
    (hQ : ∀ c a d v w, Q (.panic c) (Act.put a d v) w → Q (.panic c) a w := by intro c a d v w h; cases d <;> exact h) (H : Hp T w0 w l) : (Code.region id ops true).wp P Q a w := wp_plan H hs f p hm hns hc hQ h
end
end Go.Proofs.YthbeeeclgbpopaaGreatDoor
