/-
  The pool and the document's pool in one state: same.
-/
import Derived.Test.YthlhjjokodmihaaRs6
namespace Go.Proofs.Ythlhjjokodmihaa
open Go.RowKit
set_option linter.unusedSimpArgs false
set_option linter.unusedVariables false
section
variable {P : Program} {w : World} {a : Act} {o : Oper}
theorem c_bEq {t t' : TypeId} {x y : Operand} (ho : o.op = .binOp .eql t x y t') {p : Bool} (hx : a.eval x = .bool p) (hy : a.eval y = .bool p) (hu : P.underlying t = some .bool) : (execOp a.eval o).run P w = .ok (.value (.bool true)) w := by
  have e1 : (eqGuard .eql t x y (.bool p) (.bool p)).run P w = .ok () w := by unfold eqGuard; simp
  unfold execOp
  simp only [ho, hx, hy, Sem.run_bind, e1, Result.andThen_ok]
  have e2 : (Op.equal t (.bool p) (.bool p)).run P w = .ok true w := by
    unfold Op.equal Op.maxDepth
    rw [Op.equalIn]
    simp only [Sem.run_bind, run_underlying hu, Result.andThen_ok]
    cases p <;> rfl
  have e3 : (binOp .eql t (.bool p) (.bool p)).run P w = .ok (.bool true) w := by
    show ((do pure (Value.bool (← Op.equal t (.bool p) (.bool p))) : Sem Value)).run P w = _
    simp only [Sem.run_bind, e2, Result.andThen_ok, Sem.run_pure]
  simp only [e3, Result.andThen_ok, Sem.run_pure]
theorem c_bNe {t t' : TypeId} {x y : Operand} (ho : o.op = .binOp .neq t x y t') {p : Bool} (hx : a.eval x = .bool p) (hy : a.eval y = .bool p) (hu : P.underlying t = some .bool) : (execOp a.eval o).run P w = .ok (.value (.bool false)) w := by
  have e1 : (eqGuard .neq t x y (.bool p) (.bool p)).run P w = .ok () w := by unfold eqGuard; simp
  unfold execOp
  simp only [ho, hx, hy, Sem.run_bind, e1, Result.andThen_ok]
  have e2 : (Op.equal t (.bool p) (.bool p)).run P w = .ok true w := by
    unfold Op.equal Op.maxDepth
    rw [Op.equalIn]
    simp only [Sem.run_bind, run_underlying hu, Result.andThen_ok]
    cases p <;> rfl
  have e3 : (binOp .neq t (.bool p) (.bool p)).run P w = .ok (.bool false) w := by
    show ((do pure (Value.bool (!(← Op.equal t (.bool p) (.bool p)))) : Sem Value)).run P w = _
    simp only [Sem.run_bind, e2, Result.andThen_ok, Sem.run_pure]; rfl
  simp only [e3, Result.andThen_ok, Sem.run_pure]
end
def natI (l : List Nat) : List Int := l.map fun n : Nat => (n : Int)
theorem readyV_ints (l : List Nat) : readyV l = ints (natI l) := by simp [readyV, ints, natI]
@[simp] theorem natI_len (l : List Nat) : (natI l).length = l.length := by simp [natI]
theorem liveB_any {A : PA} {s : PS} {w : World} (h : PoolIn A s w) (wi : Int) (x : Bool) (hx : isW s wi = x) : Calls Try.prog 26 #[.pointer (some ⟨A.b, 0, none⟩), .int .i64 wi] w fun e w' => e = .returned (.bool x) ∧ Fr [] w w' := hx ▸ live_any h wi
theorem runB_any {A : PA} {s : PS} {w : World} (h : PoolIn A s w) (wi x : Int) (hx : runW s wi = x) : Calls Try.prog 19 #[.pointer (some ⟨A.b, 0, none⟩), .int .i64 wi] w fun e w' => e = .returned (.int .i64 x) ∧ Fr [] w w' := hx ▸ running_any h wi
theorem readyB_any {A : PA} {s : PS} {w : World} (h : PoolIn A s w) (wi : Int) (n : Nat) (hn : (readyW s wi).length = n) :
    Calls Try.prog 20 #[.pointer (some ⟨A.b, 0, none⟩), .int .i64 wi] w fun e w' => ∃ v, e = .returned v ∧ Fr [] w w' ∧ w'.ownsRow w.heap.size 3 1 v n (readyV (readyW s wi)) := hn ▸ readyOf_any h wi
theorem readyC_any {A : DA} {s : PS} {w : World} (h : DIn A s w) (J : PJ s) (wi : Int) (n : Nat) (hn : (readyW s wi).length = n) :
    Calls Try.prog 36 #[.pointer (some ⟨A.b, 0, none⟩), .int .i64 wi] w fun e w' => ∃ v, e = .returned v ∧ Fr [] w w' ∧ w'.ownsRow w.heap.size 3 1 v n (readyV (readyW s wi)) := hn ▸ ready33_any h J wi
theorem PJ.none {s : PS} (J : PJ s) {wi : Int} (h : wi < 0 ∨ (s.tas.length : Int) ≤ wi) : readyW s wi = [] := by
  cases e : readyW s wi with
  | nil => rfl
  | cons t l =>
    exfalso
    have := (mem_readyW J.wf).1 (show t ∈ readyW s wi by rw [e]; exact .head _)
    obtain ⟨v, h1, h2⟩ := J.rdy t this.1
    have hvl := get_lt h2
    rw [J.wf.liv] at hvl
    rw [this.2] at h1
    injection h1 with h1
    omega
theorem run_out (s : PS) {wi : Int} (h : wi < 0 ∨ (s.tas.length : Int) ≤ wi) : runW s wi = -1 := by
  unfold runW
  by_cases e : wi < 0
  · rw [if_pos e]
  · rw [if_neg e, List.getElem?_eq_none (by omega)]; rfl
theorem is_out {s : PS} (J : PW s) {wi : Int} (h : wi < 0 ∨ (s.tas.length : Int) ≤ wi) : isW s wi = false := by
  unfold isW
  by_cases e : wi < 0
  · rw [decide_eq_false (by omega)]; rfl
  · rw [List.getElem?_eq_none (by have := J.liv; omega)]; simp
theorem doneB_any {A : PA} {s : PS} {w : World} (h : PoolIn A s w) (n : Nat) (hn : (doneW s).length = n) :
    Calls Try.prog 27 #[.pointer (some ⟨A.b, 0, none⟩)] w fun e w' => ∃ v, e = .returned v ∧ Fr [] w w' ∧ w'.ownsRow w.heap.size 4 1 v n (boolsV (doneW s)) := hn ▸ done_any h
set_option maxHeartbeats 4000000 in
set_option maxRecDepth 100000 in
theorem same_any {A : PA} {D : DA} {s : PS} {w : World} (h : PoolIn A s w) (d : DIn D s w) (J : PJ s) :
    Calls Try.prog 21 #[.pointer (some ⟨A.b, 0, none⟩), .pointer (some ⟨D.b, 0, none⟩)] w fun e w' => e = .returned (.bool true) ∧ Fr [] w w' := by
  have H := d.rdo
  have hk := J.wf.k8
  have hn := J.wf.n
  have Hlv := hid J.wf.liv
  have Hsl := hid J.wf.sta
  have Hin := hid h
  have Hdn := hid d
  have HJ := hid J
  clear h d J
  go_enter Try.func21, Try.ntmps21
  go_wp2_with (first | ((first | (refine is_load rfl ?_; refine wl_ev rfl (by first | exact c_ld H rfl rfl | exact c_ld0 H rfl rfl | exact c_ldz H rfl rfl | exact c_ldr H rfl rfl) ?_) | (refine is_cmp rfl rfl ?_; first | (refine wl_ev rfl (by first | exact ev_cmpT rfl rfl rfl rfl | exact ev_cmpF rfl rfl rfl rfl | exact c_bNe rfl rfl rfl Try.underlying4 | exact c_bEq rfl rfl rfl Try.underlying4 | exact c_peq rfl rfl | exact c_pne rfl rfl | exact ev_strEq rfl rfl rfl | exact ev_strNe rfl rfl rfl) ?_) | (refine wl_cmp rfl rfl rfl rfl rfl (fun h => ?_) (fun h => ?_) <;> (simp only [cmpP] at h))) | (refine is_indexAddr rfl ?_; refine wl_ev rfl (c_ix rfl rfl rfl) ?_)) <;> (simp only [nrm, ↓reduceIte, Nat.reduceAdd]))  )
  go_loopw [5] (fun s5 wr => ∃ v : Nat, v ≤ s.tas.length ∧ s5 = .int .i64 v ∧ Hp [] w wr [.rng D.b 0 [.slice (some ⟨D.gp, 0, none⟩) s.par.length D.cp, .slice (some ⟨D.go, 0, none⟩) s.par.length D.co, D.va, .slice (some ⟨D.gd, 0, none⟩) s.par.length D.cd, .slice (some ⟨D.gf, 0, none⟩) s.par.length D.cf, .slice (some ⟨D.gt, 0, none⟩) s.tas.length D.ct, .slice (some ⟨D.gl, 0, none⟩) s.tas.length D.cl], .rng D.gp 0 (ints s.par), .rng D.go 0 (ints s.own), .rng D.gd 0 (boolsV (doneW s)), .rng D.gt 0 (ints s.tas), .rng D.gl 0 (boolsV s.liv)]) (fun u _ => s.tas.length - (intOf u).toNat)
  case atStart => exact ⟨0, Nat.zero_le _, rfl, H⟩
  case round =>
    clear H
    obtain ⟨v, hv, rfl, H⟩ := hrel
    by_cases hvk : v < s.tas.length
    · obtain ⟨x, hx⟩ : ∃ x, s.liv[v]? = some x := ⟨_, List.getElem?_eq_getElem (by rw [Hlv.out]; exact hvk)⟩
      obtain ⟨y, hy⟩ : ∃ y, s.tas[v]? = some y := ⟨_, List.getElem?_eq_getElem hvk⟩
      have hxv := boolsV_at hx
      have hyv := ints_at hy
      have HL : Hid (isW s v = x) := hid (by unfold isW; rw [decide_eq_true (by omega), Int.toNat_natCast, hx]; rfl)
      have HR2 := hid (runW_at hy)
      obtain ⟨n, hnn⟩ : ∃ n, (readyW s v).length = n := ⟨_, rfl⟩
      have hnb := readyW_len s v
      rw [hnn] at hnb
      have HN := hid hnn
      clear hx hy hnn
      cases x
      · 
        go_wp2_with (first | ((first | (refine is_load rfl ?_; refine wl_ev rfl (by first | exact c_ld H rfl rfl | exact c_ld0 H rfl rfl | exact c_ldz H rfl rfl | exact c_ldr H rfl rfl) ?_) | (refine is_cmp rfl rfl ?_; first | (refine wl_ev rfl (by first | exact ev_cmpT rfl rfl rfl rfl | exact ev_cmpF rfl rfl rfl rfl | exact c_bNe rfl rfl rfl Try.underlying4 | exact c_bEq rfl rfl rfl Try.underlying4 | exact c_peq rfl rfl | exact c_pne rfl rfl | exact ev_strEq rfl rfl rfl | exact ev_strNe rfl rfl rfl) ?_) | (refine wl_cmp rfl rfl rfl rfl rfl (fun h => ?_) (fun h => ?_) <;> (simp only [cmpP] at h))) | (refine is_indexAddr rfl ?_; refine wl_ev rfl (c_ix rfl rfl rfl) ?_)) <;> (simp only [nrm, ↓reduceIte, Nat.reduceAdd]))  )
        (refine wp_plan H (List.Sublist.refl _) 34 (.st 0 (.st 1 (.st 3 (.st 4 (.st 5 (.st 6 (.st 7 (.st 8 (.st 9 (.ld 2 (.st 10 (.st 11 (.st 12 (.st 13 (.st 15 (.st 16 (.st 17 (.st 18 (.st 19 (.st 20 (.st 21 (.ld 14 (.st 22 (.st 23 (.st 24 (.st 25 (.st 26 (.st 28 (.st 29 (.ld 27 (.ld 30 (.ld 31 (.st 32 (.st 33 .done)))))))))))))))))))))))))))))))))) rfl (by kernel_rfl) (by kernel_rfl) (by intro c a d v w h; cases d <;> exact h) (fun w1 H1 => ?_); (clear H; have H := H1; clear H1))
        (refine pl_ev rfl rfl (fun w H => ev_moveT rfl rfl) ?_; (simp only [nrm, ↓reduceIte, Nat.reduceAdd]))
        (refine pl_ev rfl rfl (fun w H => ev_moveT rfl rfl) ?_; (simp only [nrm, ↓reduceIte, Nat.reduceAdd]))
        (refine pl_ev rfl rfl (fun w H => ev_moveT rfl rfl) ?_; (simp only [nrm, ↓reduceIte, Nat.reduceAdd]))
        (refine pl_ev rfl rfl (fun w H => ev_nilCheck rfl rfl) ?_; (simp only [nrm, ↓reduceIte, Nat.reduceAdd]))
        (first | (refine pl_ev rfl rfl (fun w H => c_fa2 rfl rfl) ?_; (simp only [nrm, ↓reduceIte, Nat.reduceAdd])) | (refine pl_ev rfl rfl (fun w H => c_fa rfl rfl) ?_; (simp only [nrm, ↓reduceIte, Nat.reduceAdd])))
        (refine pl_ev rfl rfl (fun w H => by first | exact c_ld H rfl rfl | exact c_ld0 H rfl rfl | exact c_ldz H rfl rfl | exact c_ldr H rfl rfl) ?_; (simp only [nrm, ↓reduceIte, Nat.reduceAdd]))
        (refine pl_ev rfl rfl (fun w H => ev_moveT rfl rfl) ?_; (simp only [nrm, ↓reduceIte, Nat.reduceAdd]))
        (refine pl_ev rfl rfl (fun w H => c_ix rfl rfl rfl) ?_; (simp only [nrm, ↓reduceIte, Nat.reduceAdd]))
        (refine pl_ev rfl rfl (fun w H => by first | exact c_ld H rfl rfl | exact c_ld0 H rfl rfl | exact c_ldz H rfl rfl | exact c_ldr H rfl rfl) ?_; (simp only [nrm, ↓reduceIte, Nat.reduceAdd]))
        ((refine pl_rw rfl rfl (fun K hK => rw_call rfl Try.func26 (by kernel_rfl) rfl (liveB_any (Hin.out.fr H.fr (by simp)) v false HL.out) (fun e w1 hpost => ?_))); obtain ⟨rfl, hF⟩ := hpost; refine ⟨_, rfl, ?_⟩; have H1 := H.step hF (by simp); refine hK _ _ (fun hne => by first | exact absurd rfl hne | exact H1.sub (by repeat first | exact List.Sublist.refl _ | exact List.nil_sublist _ | apply List.Sublist.cons_cons | apply List.Sublist.cons)) ?_; clear hK K; (clear H; have H := H1; clear H1); (simp only [nrm, ↓reduceIte, Nat.reduceAdd]))
        (refine pl_ev rfl rfl (fun w H => by first | exact ev_cmpT rfl rfl rfl rfl | exact ev_cmpF rfl rfl rfl rfl | exact c_bNe rfl rfl rfl Try.underlying4 | exact c_bEq rfl rfl rfl Try.underlying4 | exact c_peq rfl rfl | exact c_pne rfl rfl | exact ev_strEq rfl rfl rfl | exact ev_strNe rfl rfl rfl) ?_; (simp only [nrm, ↓reduceIte, Nat.reduceAdd]))
        (refine pl_ev rfl rfl (fun w H => ev_moveT rfl rfl) ?_; (simp only [nrm, ↓reduceIte, Nat.reduceAdd]))
        (first | (refine pl_ev rfl rfl (fun w H => ev_moveT rfl rfl) ?_; (simp only [nrm, ↓reduceIte, Nat.reduceAdd])) | (refine pl_no rfl rfl ?_; (simp only [nrm, ↓reduceIte, Nat.reduceAdd])))
        (first | (refine pl_ev rfl rfl (fun w H => ev_moveT rfl rfl) ?_; (simp only [nrm, ↓reduceIte, Nat.reduceAdd])) | (refine pl_no rfl rfl ?_; (simp only [nrm, ↓reduceIte, Nat.reduceAdd])))
        (first | (refine pl_ev rfl rfl (fun w H => ev_moveT rfl rfl) ?_; (simp only [nrm, ↓reduceIte, Nat.reduceAdd])) | (refine pl_no rfl rfl ?_; (simp only [nrm, ↓reduceIte, Nat.reduceAdd])))
        (first | (refine pl_ev rfl rfl (fun w H => ev_nilCheck rfl rfl) ?_; (simp only [nrm, ↓reduceIte, Nat.reduceAdd])) | (refine pl_no rfl rfl ?_; (simp only [nrm, ↓reduceIte, Nat.reduceAdd])))
        (first | (first | (refine pl_ev rfl rfl (fun w H => c_fa2 rfl rfl) ?_; (simp only [nrm, ↓reduceIte, Nat.reduceAdd])) | (refine pl_ev rfl rfl (fun w H => c_fa rfl rfl) ?_; (simp only [nrm, ↓reduceIte, Nat.reduceAdd]))) | (refine pl_no rfl rfl ?_; (simp only [nrm, ↓reduceIte, Nat.reduceAdd])))
        (first | (refine pl_ev rfl rfl (fun w H => by first | exact c_ld H rfl rfl | exact c_ld0 H rfl rfl | exact c_ldz H rfl rfl | exact c_ldr H rfl rfl) ?_; (simp only [nrm, ↓reduceIte, Nat.reduceAdd])) | (refine pl_no rfl rfl ?_; (simp only [nrm, ↓reduceIte, Nat.reduceAdd])))
        (first | (refine pl_ev rfl rfl (fun w H => ev_moveT rfl rfl) ?_; (simp only [nrm, ↓reduceIte, Nat.reduceAdd])) | (refine pl_no rfl rfl ?_; (simp only [nrm, ↓reduceIte, Nat.reduceAdd])))
        (first | (refine pl_ev rfl rfl (fun w H => c_ix rfl rfl rfl) ?_; (simp only [nrm, ↓reduceIte, Nat.reduceAdd])) | (refine pl_no rfl rfl ?_; (simp only [nrm, ↓reduceIte, Nat.reduceAdd])))
        (first | (refine pl_ev rfl rfl (fun w H => by first | exact c_ld H rfl rfl | exact c_ld0 H rfl rfl | exact c_ldz H rfl rfl | exact c_ldr H rfl rfl) ?_; (simp only [nrm, ↓reduceIte, Nat.reduceAdd])) | (refine pl_no rfl rfl ?_; (simp only [nrm, ↓reduceIte, Nat.reduceAdd])))
        ((refine pl_rw rfl rfl (fun K hK => rw_call rfl Try.func19 (by kernel_rfl) rfl (runB_any (Hin.out.fr H.fr (by simp)) v y HR2.out) (fun e w1 hpost => ?_))); obtain ⟨rfl, hF⟩ := hpost; refine ⟨_, rfl, ?_⟩; have H1 := H.step hF (by simp); refine hK _ _ (fun hne => by first | exact absurd rfl hne | exact H1.sub (by repeat first | exact List.Sublist.refl _ | exact List.nil_sublist _ | apply List.Sublist.cons_cons | apply List.Sublist.cons)) ?_; clear hK K; (clear H; have H := H1; clear H1); (simp only [nrm, ↓reduceIte, Nat.reduceAdd]))
        (first | (refine pl_ev rfl rfl (fun w H => by first | exact ev_cmpT rfl rfl rfl rfl | exact ev_cmpF rfl rfl rfl rfl | exact c_bNe rfl rfl rfl Try.underlying4 | exact c_bEq rfl rfl rfl Try.underlying4 | exact c_peq rfl rfl | exact c_pne rfl rfl | exact ev_strEq rfl rfl rfl | exact ev_strNe rfl rfl rfl) ?_; (simp only [nrm, ↓reduceIte, Nat.reduceAdd])) | (refine pl_no rfl rfl ?_; (simp only [nrm, ↓reduceIte, Nat.reduceAdd])))
        (refine pl_ev rfl rfl (fun w H => by first | exact ev_pickTC rfl rfl | exact ev_pickFT rfl rfl rfl | exact ev_pickFC rfl rfl | exact ev_pickTT rfl rfl rfl) ?_; (simp only [nrm, ↓reduceIte, Nat.reduceAdd]))
        (refine pl_ev rfl rfl (fun w H => ev_moveT rfl rfl) ?_; (simp only [nrm, ↓reduceIte, Nat.reduceAdd]))
        (first | (refine pl_ev rfl rfl (fun w H => ev_moveT rfl rfl) ?_; (simp only [nrm, ↓reduceIte, Nat.reduceAdd])) | (refine pl_no rfl rfl ?_; (simp only [nrm, ↓reduceIte, Nat.reduceAdd])))
        (first | (refine pl_ev rfl rfl (fun w H => ev_moveT rfl rfl) ?_; (simp only [nrm, ↓reduceIte, Nat.reduceAdd])) | (refine pl_no rfl rfl ?_; (simp only [nrm, ↓reduceIte, Nat.reduceAdd])))
        (first | (refine pl_ev rfl rfl (fun w H => ev_moveT rfl rfl) ?_; (simp only [nrm, ↓reduceIte, Nat.reduceAdd])) | (refine pl_no rfl rfl ?_; (simp only [nrm, ↓reduceIte, Nat.reduceAdd])))
        (first | (refine pl_ev rfl rfl (fun w H => ev_moveT rfl rfl) ?_; (simp only [nrm, ↓reduceIte, Nat.reduceAdd])) | (refine pl_no rfl rfl ?_; (simp only [nrm, ↓reduceIte, Nat.reduceAdd])))
        ((refine pl_rw rfl rfl (fun K hK => rw_call rfl Try.func20 (by kernel_rfl) rfl (readyB_any (Hin.out.fr H.fr (by simp)) v n HN.out) (fun e w1 hpost => ?_))); obtain ⟨va, rfl, hF, hown⟩ := hpost; refine ⟨_, rfl, ?_⟩; obtain ⟨Sa, H1⟩ := H.rowNew 1 hF hown; obtain ⟨p1, e1, rfl, _⟩ := (H1.rowo 1).form; refine hK _ _ (fun hne => by first | exact absurd rfl hne | exact H1.sub (by repeat first | exact List.Sublist.refl _ | exact List.nil_sublist _ | apply List.Sublist.cons_cons | apply List.Sublist.cons)) ?_; clear hK K hF hown; (clear H; have H := H1; clear H1); (simp only [nrm, ↓reduceIte, Nat.reduceAdd]))
        ((refine pl_rw rfl rfl (fun K hK => rw_call rfl Try.func36 (by kernel_rfl) rfl (readyC_any (Hdn.out.fr H.fr (by simp)) HJ.out v n HN.out) (fun e w1 hpost => ?_))); obtain ⟨vb, rfl, hF, hown⟩ := hpost; refine ⟨_, rfl, ?_⟩; obtain ⟨Sb, H1⟩ := H.rowNew 2 hF hown; obtain ⟨p2, e2, rfl, _⟩ := (H1.rowo 2).form; refine hK _ _ (fun hne => by first | exact absurd rfl hne | exact H1.sub (by repeat first | exact List.Sublist.refl _ | exact List.nil_sublist _ | apply List.Sublist.cons_cons | apply List.Sublist.cons)) ?_; clear hK K hF hown; (clear H; have H := H1; clear H1); (simp only [nrm, ↓reduceIte, Nat.reduceAdd]))
        ((refine pl_rw rfl rfl (fun K hK => rw_call rfl Try.func28 (by kernel_rfl) rfl (ints_same (natI (readyW s v)) (by rw [natI_len]; exact HN.out) (by rw [natI_len]; exact HN.out) (by omega) (by rw [← readyV_ints]; exact (H.rowo 1).rd) (by rw [← readyV_ints]; exact (H.rowo 2).rd)) (fun e w1 hpost => ?_))); obtain ⟨rfl, hF⟩ := hpost; refine ⟨_, rfl, ?_⟩; have H1 := H.step hF (by simp); refine hK _ _ (fun hne => by first | exact absurd rfl hne | exact H1.sub (by repeat first | exact List.Sublist.refl _ | exact List.nil_sublist _ | apply List.Sublist.cons_cons | apply List.Sublist.cons)) ?_; clear hK K; (clear H; have H := H1; clear H1); (simp only [nrm, ↓reduceIte, Nat.reduceAdd]))
        (first | (refine pl_ev rfl rfl (fun w H => ev_not rfl rfl) ?_; (simp only [nrm, ↓reduceIte, Nat.reduceAdd])) | (refine pl_no rfl rfl ?_; (simp only [nrm, ↓reduceIte, Nat.reduceAdd])))
        (refine pl_ev rfl rfl (fun w H => by first | exact ev_pickTC rfl rfl | exact ev_pickFT rfl rfl rfl | exact ev_pickFC rfl rfl | exact ev_pickTT rfl rfl rfl) ?_; (simp only [nrm, ↓reduceIte, Nat.reduceAdd]))
        (refine pl_done ?_)
        all_goals
          go_wp2_with (first | ((first | (refine is_load rfl ?_; refine wl_ev rfl (by first | exact c_ld H rfl rfl | exact c_ld0 H rfl rfl | exact c_ldz H rfl rfl | exact c_ldr H rfl rfl) ?_) | (refine is_cmp rfl rfl ?_; first | (refine wl_ev rfl (by first | exact ev_cmpT rfl rfl rfl rfl | exact ev_cmpF rfl rfl rfl rfl | exact c_bNe rfl rfl rfl Try.underlying4 | exact c_bEq rfl rfl rfl Try.underlying4 | exact c_peq rfl rfl | exact c_pne rfl rfl | exact ev_strEq rfl rfl rfl | exact ev_strNe rfl rfl rfl) ?_) | (refine wl_cmp rfl rfl rfl rfl rfl (fun h => ?_) (fun h => ?_) <;> (simp only [cmpP] at h))) | (refine is_indexAddr rfl ?_; refine wl_ev rfl (c_ix rfl rfl rfl) ?_)) <;> (simp only [nrm, ↓reduceIte, Nat.reduceAdd]))  )
          go_roundw
          case rel => exact ⟨v + 1, by omega, by go_num, H.sub (by repeat first | exact List.Sublist.refl _ | exact List.nil_sublist _ | apply List.Sublist.cons_cons | apply List.Sublist.cons)⟩
          case measure => simp [intOf]; omega
      · 
        go_wp2_with (first | ((first | (refine is_load rfl ?_; refine wl_ev rfl (by first | exact c_ld H rfl rfl | exact c_ld0 H rfl rfl | exact c_ldz H rfl rfl | exact c_ldr H rfl rfl) ?_) | (refine is_cmp rfl rfl ?_; first | (refine wl_ev rfl (by first | exact ev_cmpT rfl rfl rfl rfl | exact ev_cmpF rfl rfl rfl rfl | exact c_bNe rfl rfl rfl Try.underlying4 | exact c_bEq rfl rfl rfl Try.underlying4 | exact c_peq rfl rfl | exact c_pne rfl rfl | exact ev_strEq rfl rfl rfl | exact ev_strNe rfl rfl rfl) ?_) | (refine wl_cmp rfl rfl rfl rfl rfl (fun h => ?_) (fun h => ?_) <;> (simp only [cmpP] at h))) | (refine is_indexAddr rfl ?_; refine wl_ev rfl (c_ix rfl rfl rfl) ?_)) <;> (simp only [nrm, ↓reduceIte, Nat.reduceAdd]))  )
        (refine wp_plan H (List.Sublist.refl _) 34 (.st 0 (.st 1 (.st 3 (.st 4 (.st 5 (.st 6 (.st 7 (.st 8 (.st 9 (.ld 2 (.st 10 (.st 11 (.st 12 (.st 13 (.st 15 (.st 16 (.st 17 (.st 18 (.st 19 (.st 20 (.st 21 (.ld 14 (.st 22 (.st 23 (.st 24 (.st 25 (.st 26 (.st 28 (.st 29 (.ld 27 (.ld 30 (.ld 31 (.st 32 (.st 33 .done)))))))))))))))))))))))))))))))))) rfl (by kernel_rfl) (by kernel_rfl) (by intro c a d v w h; cases d <;> exact h) (fun w1 H1 => ?_); (clear H; have H := H1; clear H1))
        (refine pl_ev rfl rfl (fun w H => ev_moveT rfl rfl) ?_; (simp only [nrm, ↓reduceIte, Nat.reduceAdd]))
        (refine pl_ev rfl rfl (fun w H => ev_moveT rfl rfl) ?_; (simp only [nrm, ↓reduceIte, Nat.reduceAdd]))
        (refine pl_ev rfl rfl (fun w H => ev_moveT rfl rfl) ?_; (simp only [nrm, ↓reduceIte, Nat.reduceAdd]))
        (refine pl_ev rfl rfl (fun w H => ev_nilCheck rfl rfl) ?_; (simp only [nrm, ↓reduceIte, Nat.reduceAdd]))
        (first | (refine pl_ev rfl rfl (fun w H => c_fa2 rfl rfl) ?_; (simp only [nrm, ↓reduceIte, Nat.reduceAdd])) | (refine pl_ev rfl rfl (fun w H => c_fa rfl rfl) ?_; (simp only [nrm, ↓reduceIte, Nat.reduceAdd])))
        (refine pl_ev rfl rfl (fun w H => by first | exact c_ld H rfl rfl | exact c_ld0 H rfl rfl | exact c_ldz H rfl rfl | exact c_ldr H rfl rfl) ?_; (simp only [nrm, ↓reduceIte, Nat.reduceAdd]))
        (refine pl_ev rfl rfl (fun w H => ev_moveT rfl rfl) ?_; (simp only [nrm, ↓reduceIte, Nat.reduceAdd]))
        (refine pl_ev rfl rfl (fun w H => c_ix rfl rfl rfl) ?_; (simp only [nrm, ↓reduceIte, Nat.reduceAdd]))
        (refine pl_ev rfl rfl (fun w H => by first | exact c_ld H rfl rfl | exact c_ld0 H rfl rfl | exact c_ldz H rfl rfl | exact c_ldr H rfl rfl) ?_; (simp only [nrm, ↓reduceIte, Nat.reduceAdd]))
        ((refine pl_rw rfl rfl (fun K hK => rw_call rfl Try.func26 (by kernel_rfl) rfl (liveB_any (Hin.out.fr H.fr (by simp)) v true HL.out) (fun e w1 hpost => ?_))); obtain ⟨rfl, hF⟩ := hpost; refine ⟨_, rfl, ?_⟩; have H1 := H.step hF (by simp); refine hK _ _ (fun hne => by first | exact absurd rfl hne | exact H1.sub (by repeat first | exact List.Sublist.refl _ | exact List.nil_sublist _ | apply List.Sublist.cons_cons | apply List.Sublist.cons)) ?_; clear hK K; (clear H; have H := H1; clear H1); (simp only [nrm, ↓reduceIte, Nat.reduceAdd]))
        (refine pl_ev rfl rfl (fun w H => by first | exact ev_cmpT rfl rfl rfl rfl | exact ev_cmpF rfl rfl rfl rfl | exact c_bNe rfl rfl rfl Try.underlying4 | exact c_bEq rfl rfl rfl Try.underlying4 | exact c_peq rfl rfl | exact c_pne rfl rfl | exact ev_strEq rfl rfl rfl | exact ev_strNe rfl rfl rfl) ?_; (simp only [nrm, ↓reduceIte, Nat.reduceAdd]))
        (refine pl_ev rfl rfl (fun w H => ev_moveT rfl rfl) ?_; (simp only [nrm, ↓reduceIte, Nat.reduceAdd]))
        (first | (refine pl_ev rfl rfl (fun w H => ev_moveT rfl rfl) ?_; (simp only [nrm, ↓reduceIte, Nat.reduceAdd])) | (refine pl_no rfl rfl ?_; (simp only [nrm, ↓reduceIte, Nat.reduceAdd])))
        (first | (refine pl_ev rfl rfl (fun w H => ev_moveT rfl rfl) ?_; (simp only [nrm, ↓reduceIte, Nat.reduceAdd])) | (refine pl_no rfl rfl ?_; (simp only [nrm, ↓reduceIte, Nat.reduceAdd])))
        (first | (refine pl_ev rfl rfl (fun w H => ev_moveT rfl rfl) ?_; (simp only [nrm, ↓reduceIte, Nat.reduceAdd])) | (refine pl_no rfl rfl ?_; (simp only [nrm, ↓reduceIte, Nat.reduceAdd])))
        (first | (refine pl_ev rfl rfl (fun w H => ev_nilCheck rfl rfl) ?_; (simp only [nrm, ↓reduceIte, Nat.reduceAdd])) | (refine pl_no rfl rfl ?_; (simp only [nrm, ↓reduceIte, Nat.reduceAdd])))
        (first | (first | (refine pl_ev rfl rfl (fun w H => c_fa2 rfl rfl) ?_; (simp only [nrm, ↓reduceIte, Nat.reduceAdd])) | (refine pl_ev rfl rfl (fun w H => c_fa rfl rfl) ?_; (simp only [nrm, ↓reduceIte, Nat.reduceAdd]))) | (refine pl_no rfl rfl ?_; (simp only [nrm, ↓reduceIte, Nat.reduceAdd])))
        (first | (refine pl_ev rfl rfl (fun w H => by first | exact c_ld H rfl rfl | exact c_ld0 H rfl rfl | exact c_ldz H rfl rfl | exact c_ldr H rfl rfl) ?_; (simp only [nrm, ↓reduceIte, Nat.reduceAdd])) | (refine pl_no rfl rfl ?_; (simp only [nrm, ↓reduceIte, Nat.reduceAdd])))
        (first | (refine pl_ev rfl rfl (fun w H => ev_moveT rfl rfl) ?_; (simp only [nrm, ↓reduceIte, Nat.reduceAdd])) | (refine pl_no rfl rfl ?_; (simp only [nrm, ↓reduceIte, Nat.reduceAdd])))
        (first | (refine pl_ev rfl rfl (fun w H => c_ix rfl rfl rfl) ?_; (simp only [nrm, ↓reduceIte, Nat.reduceAdd])) | (refine pl_no rfl rfl ?_; (simp only [nrm, ↓reduceIte, Nat.reduceAdd])))
        (first | (refine pl_ev rfl rfl (fun w H => by first | exact c_ld H rfl rfl | exact c_ld0 H rfl rfl | exact c_ldz H rfl rfl | exact c_ldr H rfl rfl) ?_; (simp only [nrm, ↓reduceIte, Nat.reduceAdd])) | (refine pl_no rfl rfl ?_; (simp only [nrm, ↓reduceIte, Nat.reduceAdd])))
        ((refine pl_rw rfl rfl (fun K hK => rw_call rfl Try.func19 (by kernel_rfl) rfl (runB_any (Hin.out.fr H.fr (by simp)) v y HR2.out) (fun e w1 hpost => ?_))); obtain ⟨rfl, hF⟩ := hpost; refine ⟨_, rfl, ?_⟩; have H1 := H.step hF (by simp); refine hK _ _ (fun hne => by first | exact absurd rfl hne | exact H1.sub (by repeat first | exact List.Sublist.refl _ | exact List.nil_sublist _ | apply List.Sublist.cons_cons | apply List.Sublist.cons)) ?_; clear hK K; (clear H; have H := H1; clear H1); (simp only [nrm, ↓reduceIte, Nat.reduceAdd]))
        (first | (refine pl_ev rfl rfl (fun w H => by first | exact ev_cmpT rfl rfl rfl rfl | exact ev_cmpF rfl rfl rfl rfl | exact c_bNe rfl rfl rfl Try.underlying4 | exact c_bEq rfl rfl rfl Try.underlying4 | exact c_peq rfl rfl | exact c_pne rfl rfl | exact ev_strEq rfl rfl rfl | exact ev_strNe rfl rfl rfl) ?_; (simp only [nrm, ↓reduceIte, Nat.reduceAdd])) | (refine pl_no rfl rfl ?_; (simp only [nrm, ↓reduceIte, Nat.reduceAdd])))
        (refine pl_ev rfl rfl (fun w H => by first | exact ev_pickTC rfl rfl | exact ev_pickFT rfl rfl rfl | exact ev_pickFC rfl rfl | exact ev_pickTT rfl rfl rfl) ?_; (simp only [nrm, ↓reduceIte, Nat.reduceAdd]))
        (refine pl_ev rfl rfl (fun w H => ev_moveT rfl rfl) ?_; (simp only [nrm, ↓reduceIte, Nat.reduceAdd]))
        (first | (refine pl_ev rfl rfl (fun w H => ev_moveT rfl rfl) ?_; (simp only [nrm, ↓reduceIte, Nat.reduceAdd])) | (refine pl_no rfl rfl ?_; (simp only [nrm, ↓reduceIte, Nat.reduceAdd])))
        (first | (refine pl_ev rfl rfl (fun w H => ev_moveT rfl rfl) ?_; (simp only [nrm, ↓reduceIte, Nat.reduceAdd])) | (refine pl_no rfl rfl ?_; (simp only [nrm, ↓reduceIte, Nat.reduceAdd])))
        (first | (refine pl_ev rfl rfl (fun w H => ev_moveT rfl rfl) ?_; (simp only [nrm, ↓reduceIte, Nat.reduceAdd])) | (refine pl_no rfl rfl ?_; (simp only [nrm, ↓reduceIte, Nat.reduceAdd])))
        (first | (refine pl_ev rfl rfl (fun w H => ev_moveT rfl rfl) ?_; (simp only [nrm, ↓reduceIte, Nat.reduceAdd])) | (refine pl_no rfl rfl ?_; (simp only [nrm, ↓reduceIte, Nat.reduceAdd])))
        ((refine pl_rw rfl rfl (fun K hK => rw_call rfl Try.func20 (by kernel_rfl) rfl (readyB_any (Hin.out.fr H.fr (by simp)) v n HN.out) (fun e w1 hpost => ?_))); obtain ⟨va, rfl, hF, hown⟩ := hpost; refine ⟨_, rfl, ?_⟩; obtain ⟨Sa, H1⟩ := H.rowNew 1 hF hown; obtain ⟨p1, e1, rfl, _⟩ := (H1.rowo 1).form; refine hK _ _ (fun hne => by first | exact absurd rfl hne | exact H1.sub (by repeat first | exact List.Sublist.refl _ | exact List.nil_sublist _ | apply List.Sublist.cons_cons | apply List.Sublist.cons)) ?_; clear hK K hF hown; (clear H; have H := H1; clear H1); (simp only [nrm, ↓reduceIte, Nat.reduceAdd]))
        ((refine pl_rw rfl rfl (fun K hK => rw_call rfl Try.func36 (by kernel_rfl) rfl (readyC_any (Hdn.out.fr H.fr (by simp)) HJ.out v n HN.out) (fun e w1 hpost => ?_))); obtain ⟨vb, rfl, hF, hown⟩ := hpost; refine ⟨_, rfl, ?_⟩; obtain ⟨Sb, H1⟩ := H.rowNew 2 hF hown; obtain ⟨p2, e2, rfl, _⟩ := (H1.rowo 2).form; refine hK _ _ (fun hne => by first | exact absurd rfl hne | exact H1.sub (by repeat first | exact List.Sublist.refl _ | exact List.nil_sublist _ | apply List.Sublist.cons_cons | apply List.Sublist.cons)) ?_; clear hK K hF hown; (clear H; have H := H1; clear H1); (simp only [nrm, ↓reduceIte, Nat.reduceAdd]))
        ((refine pl_rw rfl rfl (fun K hK => rw_call rfl Try.func28 (by kernel_rfl) rfl (ints_same (natI (readyW s v)) (by rw [natI_len]; exact HN.out) (by rw [natI_len]; exact HN.out) (by omega) (by rw [← readyV_ints]; exact (H.rowo 1).rd) (by rw [← readyV_ints]; exact (H.rowo 2).rd)) (fun e w1 hpost => ?_))); obtain ⟨rfl, hF⟩ := hpost; refine ⟨_, rfl, ?_⟩; have H1 := H.step hF (by simp); refine hK _ _ (fun hne => by first | exact absurd rfl hne | exact H1.sub (by repeat first | exact List.Sublist.refl _ | exact List.nil_sublist _ | apply List.Sublist.cons_cons | apply List.Sublist.cons)) ?_; clear hK K; (clear H; have H := H1; clear H1); (simp only [nrm, ↓reduceIte, Nat.reduceAdd]))
        (first | (refine pl_ev rfl rfl (fun w H => ev_not rfl rfl) ?_; (simp only [nrm, ↓reduceIte, Nat.reduceAdd])) | (refine pl_no rfl rfl ?_; (simp only [nrm, ↓reduceIte, Nat.reduceAdd])))
        (refine pl_ev rfl rfl (fun w H => by first | exact ev_pickTC rfl rfl | exact ev_pickFT rfl rfl rfl | exact ev_pickFC rfl rfl | exact ev_pickTT rfl rfl rfl) ?_; (simp only [nrm, ↓reduceIte, Nat.reduceAdd]))
        (refine pl_done ?_)
        all_goals
          go_wp2_with (first | ((first | (refine is_load rfl ?_; refine wl_ev rfl (by first | exact c_ld H rfl rfl | exact c_ld0 H rfl rfl | exact c_ldz H rfl rfl | exact c_ldr H rfl rfl) ?_) | (refine is_cmp rfl rfl ?_; first | (refine wl_ev rfl (by first | exact ev_cmpT rfl rfl rfl rfl | exact ev_cmpF rfl rfl rfl rfl | exact c_bNe rfl rfl rfl Try.underlying4 | exact c_bEq rfl rfl rfl Try.underlying4 | exact c_peq rfl rfl | exact c_pne rfl rfl | exact ev_strEq rfl rfl rfl | exact ev_strNe rfl rfl rfl) ?_) | (refine wl_cmp rfl rfl rfl rfl rfl (fun h => ?_) (fun h => ?_) <;> (simp only [cmpP] at h))) | (refine is_indexAddr rfl ?_; refine wl_ev rfl (c_ix rfl rfl rfl) ?_)) <;> (simp only [nrm, ↓reduceIte, Nat.reduceAdd]))  )
          go_roundw
          case rel => exact ⟨v + 1, by omega, by go_num, H.sub (by repeat first | exact List.Sublist.refl _ | exact List.nil_sublist _ | apply List.Sublist.cons_cons | apply List.Sublist.cons)⟩
          case measure => simp [intOf]; omega
    · have hdl : (doneW s).length = s.par.length := by rw [doneW_len]; exact Hsl.out
      have Hdl := hid hdl
      clear hdl
      go_wp2_with (first | ((first | (refine is_load rfl ?_; refine wl_ev rfl (by first | exact c_ld H rfl rfl | exact c_ld0 H rfl rfl | exact c_ldz H rfl rfl | exact c_ldr H rfl rfl) ?_) | (refine is_cmp rfl rfl ?_; first | (refine wl_ev rfl (by first | exact ev_cmpT rfl rfl rfl rfl | exact ev_cmpF rfl rfl rfl rfl | exact c_bNe rfl rfl rfl Try.underlying4 | exact c_bEq rfl rfl rfl Try.underlying4 | exact c_peq rfl rfl | exact c_pne rfl rfl | exact ev_strEq rfl rfl rfl | exact ev_strNe rfl rfl rfl) ?_) | (refine wl_cmp rfl rfl rfl rfl rfl (fun h => ?_) (fun h => ?_) <;> (simp only [cmpP] at h))) | (refine is_indexAddr rfl ?_; refine wl_ev rfl (c_ix rfl rfl rfl) ?_)) <;> (simp only [nrm, ↓reduceIte, Nat.reduceAdd]))  )
      refine Calls.mono (doneB_any (Hin.out.fr H.fr (by simp)) s.par.length Hdl.out) ?_
      rintro e w1 ⟨dv, rfl, hF, hown⟩
      by_cases h0 : s.par.length = 0
      · have h0' : s.par.length ≤ 0 := by omega
        obtain ⟨p7, c7, rfl⟩ : ∃ p c, dv = .slice p s.par.length c := by
          rcases hown.2 with ⟨rfl, _⟩ | ⟨g, cap, cur, rfl, _⟩
          · exact ⟨none, 0, by rw [h0]⟩
          · exact ⟨_, _, rfl⟩
        have H1 := H.step hF (by simp)
        clear H hF hown h0
        have H := H1
        clear H1
        go_wp2_with (first | ((first | (refine is_load rfl ?_; refine wl_ev rfl (by first | exact c_ld H rfl rfl | exact c_ld0 H rfl rfl | exact c_ldz H rfl rfl | exact c_ldr H rfl rfl) ?_) | (refine is_cmp rfl rfl ?_; first | (refine wl_ev rfl (by first | exact ev_cmpT rfl rfl rfl rfl | exact ev_cmpF rfl rfl rfl rfl | exact c_bNe rfl rfl rfl Try.underlying4 | exact c_bEq rfl rfl rfl Try.underlying4 | exact c_peq rfl rfl | exact c_pne rfl rfl | exact ev_strEq rfl rfl rfl | exact ev_strNe rfl rfl rfl) ?_) | (refine wl_cmp rfl rfl rfl rfl rfl (fun h => ?_) (fun h => ?_) <;> (simp only [cmpP] at h))) | (refine is_indexAddr rfl ?_; refine wl_ev rfl (c_ix rfl rfl rfl) ?_)) <;> (simp only [nrm, ↓reduceIte, Nat.reduceAdd]))  )
        go_loopw [7] (fun s7 wr => s7 = .int .i64 0 ∧ Hp [] w wr [.rng D.b 0 [.slice (some ⟨D.gp, 0, none⟩) s.par.length D.cp, .slice (some ⟨D.go, 0, none⟩) s.par.length D.co, D.va, .slice (some ⟨D.gd, 0, none⟩) s.par.length D.cd, .slice (some ⟨D.gf, 0, none⟩) s.par.length D.cf, .slice (some ⟨D.gt, 0, none⟩) s.tas.length D.ct, .slice (some ⟨D.gl, 0, none⟩) s.tas.length D.cl], .rng D.gp 0 (ints s.par), .rng D.go 0 (ints s.own), .rng D.gd 0 (boolsV (doneW s)), .rng D.gt 0 (ints s.tas), .rng D.gl 0 (boolsV s.liv)]) (fun _ _ => 0)
        case atStart => exact ⟨rfl, H⟩
        case round =>
          clear H
          obtain ⟨rfl, H⟩ := hrel
          go_wp2_with (first | ((first | (refine is_load rfl ?_; refine wl_ev rfl (by first | exact c_ld H rfl rfl | exact c_ld0 H rfl rfl | exact c_ldz H rfl rfl | exact c_ldr H rfl rfl) ?_) | (refine is_cmp rfl rfl ?_; first | (refine wl_ev rfl (by first | exact ev_cmpT rfl rfl rfl rfl | exact ev_cmpF rfl rfl rfl rfl | exact c_bNe rfl rfl rfl Try.underlying4 | exact c_bEq rfl rfl rfl Try.underlying4 | exact c_peq rfl rfl | exact c_pne rfl rfl | exact ev_strEq rfl rfl rfl | exact ev_strNe rfl rfl rfl) ?_) | (refine wl_cmp rfl rfl rfl rfl rfl (fun h => ?_) (fun h => ?_) <;> (simp only [cmpP] at h))) | (refine is_indexAddr rfl ?_; refine wl_ev rfl (c_ix rfl rfl rfl) ?_)) <;> (simp only [nrm, ↓reduceIte, Nat.reduceAdd]))  )
          (refine Calls.mono (left_any (Hin.out.fr H.fr (by simp))) ?_; rintro e w1 ⟨rfl, hF⟩; have H1 := H.step hF (by simp); clear H; have H := H1; clear H1)
          go_wp2_with (first | ((first | (refine is_load rfl ?_; refine wl_ev rfl (by first | exact c_ld H rfl rfl | exact c_ld0 H rfl rfl | exact c_ldz H rfl rfl | exact c_ldr H rfl rfl) ?_) | (refine is_cmp rfl rfl ?_; first | (refine wl_ev rfl (by first | exact ev_cmpT rfl rfl rfl rfl | exact ev_cmpF rfl rfl rfl rfl | exact c_bNe rfl rfl rfl Try.underlying4 | exact c_bEq rfl rfl rfl Try.underlying4 | exact c_peq rfl rfl | exact c_pne rfl rfl | exact ev_strEq rfl rfl rfl | exact ev_strNe rfl rfl rfl) ?_) | (refine wl_cmp rfl rfl rfl rfl rfl (fun h => ?_) (fun h => ?_) <;> (simp only [cmpP] at h))) | (refine is_indexAddr rfl ?_; refine wl_ev rfl (c_ix rfl rfl rfl) ?_)) <;> (simp only [nrm, ↓reduceIte, Nat.reduceAdd]))  )
          (refine Calls.mono (left33_any (Hdn.out.fr H.fr (by simp)) HJ.out.wf) ?_; rintro e w1 ⟨rfl, hF⟩; have H1 := H.step hF (by simp); clear H; have H := H1; clear H1)
          have hLl := left_zero_le s HJ.out.wf
          generalize leftW s = L at hLl ⊢
          go_wp2_with (first | ((first | (refine is_load rfl ?_; refine wl_ev rfl (by first | exact c_ld H rfl rfl | exact c_ld0 H rfl rfl | exact c_ldz H rfl rfl | exact c_ldr H rfl rfl) ?_) | (refine is_cmp rfl rfl ?_; first | (refine wl_ev rfl (by first | exact ev_cmpT rfl rfl rfl rfl | exact ev_cmpF rfl rfl rfl rfl | exact c_bNe rfl rfl rfl Try.underlying4 | exact c_bEq rfl rfl rfl Try.underlying4 | exact c_peq rfl rfl | exact c_pne rfl rfl | exact ev_strEq rfl rfl rfl | exact ev_strNe rfl rfl rfl) ?_) | (refine wl_cmp rfl rfl rfl rfl rfl (fun h => ?_) (fun h => ?_) <;> (simp only [cmpP] at h))) | (refine is_indexAddr rfl ?_; refine wl_ev rfl (c_ix rfl rfl rfl) ?_)) <;> (simp only [nrm, ↓reduceIte, Nat.reduceAdd]))  )
          (refine Calls.mono (runB_any (Hin.out.fr H.fr (by simp)) (-1) (-1) (run_out s (.inl (by decide)))) ?_; rintro e w1 ⟨rfl, hF⟩; have H1 := H.step hF (by simp); clear H; have H := H1; clear H1)
          go_wp2_with (first | ((first | (refine is_load rfl ?_; refine wl_ev rfl (by first | exact c_ld H rfl rfl | exact c_ld0 H rfl rfl | exact c_ldz H rfl rfl | exact c_ldr H rfl rfl) ?_) | (refine is_cmp rfl rfl ?_; first | (refine wl_ev rfl (by first | exact ev_cmpT rfl rfl rfl rfl | exact ev_cmpF rfl rfl rfl rfl | exact c_bNe rfl rfl rfl Try.underlying4 | exact c_bEq rfl rfl rfl Try.underlying4 | exact c_peq rfl rfl | exact c_pne rfl rfl | exact ev_strEq rfl rfl rfl | exact ev_strNe rfl rfl rfl) ?_) | (refine wl_cmp rfl rfl rfl rfl rfl (fun h => ?_) (fun h => ?_) <;> (simp only [cmpP] at h))) | (refine is_indexAddr rfl ?_; refine wl_ev rfl (c_ix rfl rfl rfl) ?_)) <;> (simp only [nrm, ↓reduceIte, Nat.reduceAdd]))  )
          (refine Calls.mono (runB_any (Hin.out.fr H.fr (by simp)) (s.tas.length : Int) (-1) (run_out s (.inr (by omega)))) ?_; rintro e w1 ⟨rfl, hF⟩; have H1 := H.step hF (by simp); clear H; have H := H1; clear H1)
          go_wp2_with (first | ((first | (refine is_load rfl ?_; refine wl_ev rfl (by first | exact c_ld H rfl rfl | exact c_ld0 H rfl rfl | exact c_ldz H rfl rfl | exact c_ldr H rfl rfl) ?_) | (refine is_cmp rfl rfl ?_; first | (refine wl_ev rfl (by first | exact ev_cmpT rfl rfl rfl rfl | exact ev_cmpF rfl rfl rfl rfl | exact c_bNe rfl rfl rfl Try.underlying4 | exact c_bEq rfl rfl rfl Try.underlying4 | exact c_peq rfl rfl | exact c_pne rfl rfl | exact ev_strEq rfl rfl rfl | exact ev_strNe rfl rfl rfl) ?_) | (refine wl_cmp rfl rfl rfl rfl rfl (fun h => ?_) (fun h => ?_) <;> (simp only [cmpP] at h))) | (refine is_indexAddr rfl ?_; refine wl_ev rfl (c_ix rfl rfl rfl) ?_)) <;> (simp only [nrm, ↓reduceIte, Nat.reduceAdd]))  )
          (refine Calls.mono (liveB_any (Hin.out.fr H.fr (by simp)) (-1) false (is_out HJ.out.wf (.inl (by decide)))) ?_; rintro e w1 ⟨rfl, hF⟩; have H1 := H.step hF (by simp); clear H; have H := H1; clear H1)
          go_wp2_with (first | ((first | (refine is_load rfl ?_; refine wl_ev rfl (by first | exact c_ld H rfl rfl | exact c_ld0 H rfl rfl | exact c_ldz H rfl rfl | exact c_ldr H rfl rfl) ?_) | (refine is_cmp rfl rfl ?_; first | (refine wl_ev rfl (by first | exact ev_cmpT rfl rfl rfl rfl | exact ev_cmpF rfl rfl rfl rfl | exact c_bNe rfl rfl rfl Try.underlying4 | exact c_bEq rfl rfl rfl Try.underlying4 | exact c_peq rfl rfl | exact c_pne rfl rfl | exact ev_strEq rfl rfl rfl | exact ev_strNe rfl rfl rfl) ?_) | (refine wl_cmp rfl rfl rfl rfl rfl (fun h => ?_) (fun h => ?_) <;> (simp only [cmpP] at h))) | (refine is_indexAddr rfl ?_; refine wl_ev rfl (c_ix rfl rfl rfl) ?_)) <;> (simp only [nrm, ↓reduceIte, Nat.reduceAdd]))  )
          (refine Calls.mono (liveB_any (Hin.out.fr H.fr (by simp)) (s.tas.length : Int) false (is_out HJ.out.wf (.inr (by omega)))) ?_; rintro e w1 ⟨rfl, hF⟩; have H1 := H.step hF (by simp); clear H; have H := H1; clear H1)
          go_wp2_with (first | ((first | (refine is_load rfl ?_; refine wl_ev rfl (by first | exact c_ld H rfl rfl | exact c_ld0 H rfl rfl | exact c_ldz H rfl rfl | exact c_ldr H rfl rfl) ?_) | (refine is_cmp rfl rfl ?_; first | (refine wl_ev rfl (by first | exact ev_cmpT rfl rfl rfl rfl | exact ev_cmpF rfl rfl rfl rfl | exact c_bNe rfl rfl rfl Try.underlying4 | exact c_bEq rfl rfl rfl Try.underlying4 | exact c_peq rfl rfl | exact c_pne rfl rfl | exact ev_strEq rfl rfl rfl | exact ev_strNe rfl rfl rfl) ?_) | (refine wl_cmp rfl rfl rfl rfl rfl (fun h => ?_) (fun h => ?_) <;> (simp only [cmpP] at h))) | (refine is_indexAddr rfl ?_; refine wl_ev rfl (c_ix rfl rfl rfl) ?_)) <;> (simp only [nrm, ↓reduceIte, Nat.reduceAdd]))  )
          refine Calls.mono (readyB_any (Hin.out.fr H.fr (by simp)) (-1) 0 (by rw [HJ.out.none (.inl (by decide))]; rfl)) ?_
          rintro e w1 ⟨rv, rfl, hF, hown⟩
          obtain ⟨p8, c8, rfl⟩ : ∃ p c, rv = .slice p 0 c := by
            rcases hown.2 with ⟨rfl, _⟩ | ⟨g, cap, cur, rfl, _⟩
            · exact ⟨_, _, rfl⟩
            · exact ⟨_, _, rfl⟩
          have H1 := H.step hF (by simp)
          clear H hF hown
          have H := H1
          clear H1
          go_wp2_with (first | ((first | (refine is_load rfl ?_; refine wl_ev rfl (by first | exact c_ld H rfl rfl | exact c_ld0 H rfl rfl | exact c_ldz H rfl rfl | exact c_ldr H rfl rfl) ?_) | (refine is_cmp rfl rfl ?_; first | (refine wl_ev rfl (by first | exact ev_cmpT rfl rfl rfl rfl | exact ev_cmpF rfl rfl rfl rfl | exact c_bNe rfl rfl rfl Try.underlying4 | exact c_bEq rfl rfl rfl Try.underlying4 | exact c_peq rfl rfl | exact c_pne rfl rfl | exact ev_strEq rfl rfl rfl | exact ev_strNe rfl rfl rfl) ?_) | (refine wl_cmp rfl rfl rfl rfl rfl (fun h => ?_) (fun h => ?_) <;> (simp only [cmpP] at h))) | (refine is_indexAddr rfl ?_; refine wl_ev rfl (c_ix rfl rfl rfl) ?_)) <;> (simp only [nrm, ↓reduceIte, Nat.reduceAdd]))  )
          refine Calls.mono (readyB_any (Hin.out.fr H.fr (by simp)) (s.tas.length : Int) 0 (by rw [HJ.out.none (.inr (by omega))]; rfl)) ?_
          rintro e w1 ⟨rv, rfl, hF, hown⟩
          obtain ⟨p9, c9, rfl⟩ : ∃ p c, rv = .slice p 0 c := by
            rcases hown.2 with ⟨rfl, _⟩ | ⟨g, cap, cur, rfl, _⟩
            · exact ⟨_, _, rfl⟩
            · exact ⟨_, _, rfl⟩
          have H1 := H.step hF (by simp)
          clear H hF hown
          have H := H1
          clear H1
          go_wp2_with (first | ((first | (refine is_load rfl ?_; refine wl_ev rfl (by first | exact c_ld H rfl rfl | exact c_ld0 H rfl rfl | exact c_ldz H rfl rfl | exact c_ldr H rfl rfl) ?_) | (refine is_cmp rfl rfl ?_; first | (refine wl_ev rfl (by first | exact ev_cmpT rfl rfl rfl rfl | exact ev_cmpF rfl rfl rfl rfl | exact c_bNe rfl rfl rfl Try.underlying4 | exact c_bEq rfl rfl rfl Try.underlying4 | exact c_peq rfl rfl | exact c_pne rfl rfl | exact ev_strEq rfl rfl rfl | exact ev_strNe rfl rfl rfl) ?_) | (refine wl_cmp rfl rfl rfl rfl rfl (fun h => ?_) (fun h => ?_) <;> (simp only [cmpP] at h))) | (refine is_indexAddr rfl ?_; refine wl_ev rfl (c_ix rfl rfl rfl) ?_)) <;> (simp only [nrm, ↓reduceIte, Nat.reduceAdd]))  )
          go_ret
          exact ⟨rfl, H.fr⟩
      · obtain ⟨g, cap, pad, rfl, hn2, hc2, hl2, hg2, H1⟩ := H.row hF hown h0
        clear H hF hown h0
        have H := H1
        clear H1
        go_wp2_with (first | ((first | (refine is_load rfl ?_; refine wl_ev rfl (by first | exact c_ld H rfl rfl | exact c_ld0 H rfl rfl | exact c_ldz H rfl rfl | exact c_ldr H rfl rfl) ?_) | (refine is_cmp rfl rfl ?_; first | (refine wl_ev rfl (by first | exact ev_cmpT rfl rfl rfl rfl | exact ev_cmpF rfl rfl rfl rfl | exact c_bNe rfl rfl rfl Try.underlying4 | exact c_bEq rfl rfl rfl Try.underlying4 | exact c_peq rfl rfl | exact c_pne rfl rfl | exact ev_strEq rfl rfl rfl | exact ev_strNe rfl rfl rfl) ?_) | (refine wl_cmp rfl rfl rfl rfl rfl (fun h => ?_) (fun h => ?_) <;> (simp only [cmpP] at h))) | (refine is_indexAddr rfl ?_; refine wl_ev rfl (c_ix rfl rfl rfl) ?_)) <;> (simp only [nrm, ↓reduceIte, Nat.reduceAdd]))  )
        go_loopw [7] (fun s7 wr => ∃ i : Nat, i ≤ s.par.length ∧ s7 = .int .i64 i ∧ Hp [] w wr (.blk g (boolsV (doneW s) ++ pad) 4 :: [.rng D.b 0 [.slice (some ⟨D.gp, 0, none⟩) s.par.length D.cp, .slice (some ⟨D.go, 0, none⟩) s.par.length D.co, D.va, .slice (some ⟨D.gd, 0, none⟩) s.par.length D.cd, .slice (some ⟨D.gf, 0, none⟩) s.par.length D.cf, .slice (some ⟨D.gt, 0, none⟩) s.tas.length D.ct, .slice (some ⟨D.gl, 0, none⟩) s.tas.length D.cl], .rng D.gp 0 (ints s.par), .rng D.go 0 (ints s.own), .rng D.gd 0 (boolsV (doneW s)), .rng D.gt 0 (ints s.tas), .rng D.gl 0 (boolsV s.liv)])) (fun u _ => s.par.length - (intOf u).toNat)
        case atStart => exact ⟨0, Nat.zero_le _, rfl, H⟩
        case round =>
          clear H
          obtain ⟨i, hi, rfl, H⟩ := hrel
          by_cases hin : i < s.par.length
          · obtain ⟨x, hx⟩ : ∃ x, (doneW s)[i]? = some x := ⟨_, List.getElem?_eq_getElem (by rw [Hdl.out]; exact hin)⟩
            have hxv := boolsV_at hx
            have hxv2 := pre_at (pad := pad) hxv
            clear hx
            go_wp2_with (first | ((first | (refine is_load rfl ?_; refine wl_ev rfl (by first | exact c_ld H rfl rfl | exact c_ld0 H rfl rfl | exact c_ldz H rfl rfl | exact c_ldr H rfl rfl) ?_) | (refine is_cmp rfl rfl ?_; first | (refine wl_ev rfl (by first | exact ev_cmpT rfl rfl rfl rfl | exact ev_cmpF rfl rfl rfl rfl | exact c_bNe rfl rfl rfl Try.underlying4 | exact c_bEq rfl rfl rfl Try.underlying4 | exact c_peq rfl rfl | exact c_pne rfl rfl | exact ev_strEq rfl rfl rfl | exact ev_strNe rfl rfl rfl) ?_) | (refine wl_cmp rfl rfl rfl rfl rfl (fun h => ?_) (fun h => ?_) <;> (simp only [cmpP] at h))) | (refine is_indexAddr rfl ?_; refine wl_ev rfl (c_ix rfl rfl rfl) ?_)) <;> (simp only [nrm, ↓reduceIte, Nat.reduceAdd]))  )
            (refine wp_plan H (List.Sublist.refl _) 12 (.st 0 (.st 1 (.st 2 (.st 3 (.st 4 (.st 5 (.st 6 (.st 7 (.st 8 (.st 9 (.st 10 (.st 11 .done)))))))))))) rfl (by kernel_rfl) (by kernel_rfl) (by intro c a d v w h; cases d <;> exact h) (fun w1 H1 => ?_); (clear H; have H := H1; clear H1))
            (refine pl_ev rfl rfl (fun w H => ev_moveT rfl rfl) ?_; (simp only [nrm, ↓reduceIte, Nat.reduceAdd]))
            (refine pl_ev rfl rfl (fun w H => ev_moveT rfl rfl) ?_; (simp only [nrm, ↓reduceIte, Nat.reduceAdd]))
            (refine pl_ev rfl rfl (fun w H => c_ix rfl rfl rfl) ?_; (simp only [nrm, ↓reduceIte, Nat.reduceAdd]))
            (refine pl_ev rfl rfl (fun w H => by first | exact c_ld H rfl rfl | exact c_ld0 H rfl rfl | exact c_ldz H rfl rfl | exact c_ldr H rfl rfl) ?_; (simp only [nrm, ↓reduceIte, Nat.reduceAdd]))
            (refine pl_ev rfl rfl (fun w H => ev_moveT rfl rfl) ?_; (simp only [nrm, ↓reduceIte, Nat.reduceAdd]))
            (refine pl_ev rfl rfl (fun w H => ev_nilCheck rfl rfl) ?_; (simp only [nrm, ↓reduceIte, Nat.reduceAdd]))
            (first | (refine pl_ev rfl rfl (fun w H => c_fa2 rfl rfl) ?_; (simp only [nrm, ↓reduceIte, Nat.reduceAdd])) | (refine pl_ev rfl rfl (fun w H => c_fa rfl rfl) ?_; (simp only [nrm, ↓reduceIte, Nat.reduceAdd])))
            (refine pl_ev rfl rfl (fun w H => by first | exact c_ld H rfl rfl | exact c_ld0 H rfl rfl | exact c_ldz H rfl rfl | exact c_ldr H rfl rfl) ?_; (simp only [nrm, ↓reduceIte, Nat.reduceAdd]))
            (refine pl_ev rfl rfl (fun w H => ev_moveT rfl rfl) ?_; (simp only [nrm, ↓reduceIte, Nat.reduceAdd]))
            (refine pl_ev rfl rfl (fun w H => c_ix rfl rfl rfl) ?_; (simp only [nrm, ↓reduceIte, Nat.reduceAdd]))
            (refine pl_ev rfl rfl (fun w H => by first | exact c_ld H rfl rfl | exact c_ld0 H rfl rfl | exact c_ldz H rfl rfl | exact c_ldr H rfl rfl) ?_; (simp only [nrm, ↓reduceIte, Nat.reduceAdd]))
            (refine pl_ev rfl rfl (fun w H => by first | exact ev_cmpT rfl rfl rfl rfl | exact ev_cmpF rfl rfl rfl rfl | exact c_bNe rfl rfl rfl Try.underlying4 | exact c_bEq rfl rfl rfl Try.underlying4 | exact c_peq rfl rfl | exact c_pne rfl rfl | exact ev_strEq rfl rfl rfl | exact ev_strNe rfl rfl rfl) ?_; (simp only [nrm, ↓reduceIte, Nat.reduceAdd]))
            (refine pl_done ?_)
            all_goals
              go_wp2_with (first | ((first | (refine is_load rfl ?_; refine wl_ev rfl (by first | exact c_ld H rfl rfl | exact c_ld0 H rfl rfl | exact c_ldz H rfl rfl | exact c_ldr H rfl rfl) ?_) | (refine is_cmp rfl rfl ?_; first | (refine wl_ev rfl (by first | exact ev_cmpT rfl rfl rfl rfl | exact ev_cmpF rfl rfl rfl rfl | exact c_bNe rfl rfl rfl Try.underlying4 | exact c_bEq rfl rfl rfl Try.underlying4 | exact c_peq rfl rfl | exact c_pne rfl rfl | exact ev_strEq rfl rfl rfl | exact ev_strNe rfl rfl rfl) ?_) | (refine wl_cmp rfl rfl rfl rfl rfl (fun h => ?_) (fun h => ?_) <;> (simp only [cmpP] at h))) | (refine is_indexAddr rfl ?_; refine wl_ev rfl (c_ix rfl rfl rfl) ?_)) <;> (simp only [nrm, ↓reduceIte, Nat.reduceAdd]))  )
              go_roundw
              case rel => exact ⟨i + 1, by omega, by go_num, H⟩
              case measure => simp [intOf]; omega
          · go_wp2_with (first | ((first | (refine is_load rfl ?_; refine wl_ev rfl (by first | exact c_ld H rfl rfl | exact c_ld0 H rfl rfl | exact c_ldz H rfl rfl | exact c_ldr H rfl rfl) ?_) | (refine is_cmp rfl rfl ?_; first | (refine wl_ev rfl (by first | exact ev_cmpT rfl rfl rfl rfl | exact ev_cmpF rfl rfl rfl rfl | exact c_bNe rfl rfl rfl Try.underlying4 | exact c_bEq rfl rfl rfl Try.underlying4 | exact c_peq rfl rfl | exact c_pne rfl rfl | exact ev_strEq rfl rfl rfl | exact ev_strNe rfl rfl rfl) ?_) | (refine wl_cmp rfl rfl rfl rfl rfl (fun h => ?_) (fun h => ?_) <;> (simp only [cmpP] at h))) | (refine is_indexAddr rfl ?_; refine wl_ev rfl (c_ix rfl rfl rfl) ?_)) <;> (simp only [nrm, ↓reduceIte, Nat.reduceAdd]))  )
            (refine Calls.mono (left_any (Hin.out.fr H.fr (by simp))) ?_; rintro e w1 ⟨rfl, hF⟩; have H1 := H.step hF (by simp); clear H; have H := H1; clear H1)
            go_wp2_with (first | ((first | (refine is_load rfl ?_; refine wl_ev rfl (by first | exact c_ld H rfl rfl | exact c_ld0 H rfl rfl | exact c_ldz H rfl rfl | exact c_ldr H rfl rfl) ?_) | (refine is_cmp rfl rfl ?_; first | (refine wl_ev rfl (by first | exact ev_cmpT rfl rfl rfl rfl | exact ev_cmpF rfl rfl rfl rfl | exact c_bNe rfl rfl rfl Try.underlying4 | exact c_bEq rfl rfl rfl Try.underlying4 | exact c_peq rfl rfl | exact c_pne rfl rfl | exact ev_strEq rfl rfl rfl | exact ev_strNe rfl rfl rfl) ?_) | (refine wl_cmp rfl rfl rfl rfl rfl (fun h => ?_) (fun h => ?_) <;> (simp only [cmpP] at h))) | (refine is_indexAddr rfl ?_; refine wl_ev rfl (c_ix rfl rfl rfl) ?_)) <;> (simp only [nrm, ↓reduceIte, Nat.reduceAdd]))  )
            (refine Calls.mono (left33_any (Hdn.out.fr H.fr (by simp)) HJ.out.wf) ?_; rintro e w1 ⟨rfl, hF⟩; have H1 := H.step hF (by simp); clear H; have H := H1; clear H1)
            have hLl := left_zero_le s HJ.out.wf
            generalize leftW s = L at hLl ⊢
            go_wp2_with (first | ((first | (refine is_load rfl ?_; refine wl_ev rfl (by first | exact c_ld H rfl rfl | exact c_ld0 H rfl rfl | exact c_ldz H rfl rfl | exact c_ldr H rfl rfl) ?_) | (refine is_cmp rfl rfl ?_; first | (refine wl_ev rfl (by first | exact ev_cmpT rfl rfl rfl rfl | exact ev_cmpF rfl rfl rfl rfl | exact c_bNe rfl rfl rfl Try.underlying4 | exact c_bEq rfl rfl rfl Try.underlying4 | exact c_peq rfl rfl | exact c_pne rfl rfl | exact ev_strEq rfl rfl rfl | exact ev_strNe rfl rfl rfl) ?_) | (refine wl_cmp rfl rfl rfl rfl rfl (fun h => ?_) (fun h => ?_) <;> (simp only [cmpP] at h))) | (refine is_indexAddr rfl ?_; refine wl_ev rfl (c_ix rfl rfl rfl) ?_)) <;> (simp only [nrm, ↓reduceIte, Nat.reduceAdd]))  )
            (refine Calls.mono (runB_any (Hin.out.fr H.fr (by simp)) (-1) (-1) (run_out s (.inl (by decide)))) ?_; rintro e w1 ⟨rfl, hF⟩; have H1 := H.step hF (by simp); clear H; have H := H1; clear H1)
            go_wp2_with (first | ((first | (refine is_load rfl ?_; refine wl_ev rfl (by first | exact c_ld H rfl rfl | exact c_ld0 H rfl rfl | exact c_ldz H rfl rfl | exact c_ldr H rfl rfl) ?_) | (refine is_cmp rfl rfl ?_; first | (refine wl_ev rfl (by first | exact ev_cmpT rfl rfl rfl rfl | exact ev_cmpF rfl rfl rfl rfl | exact c_bNe rfl rfl rfl Try.underlying4 | exact c_bEq rfl rfl rfl Try.underlying4 | exact c_peq rfl rfl | exact c_pne rfl rfl | exact ev_strEq rfl rfl rfl | exact ev_strNe rfl rfl rfl) ?_) | (refine wl_cmp rfl rfl rfl rfl rfl (fun h => ?_) (fun h => ?_) <;> (simp only [cmpP] at h))) | (refine is_indexAddr rfl ?_; refine wl_ev rfl (c_ix rfl rfl rfl) ?_)) <;> (simp only [nrm, ↓reduceIte, Nat.reduceAdd]))  )
            (refine Calls.mono (runB_any (Hin.out.fr H.fr (by simp)) (s.tas.length : Int) (-1) (run_out s (.inr (by omega)))) ?_; rintro e w1 ⟨rfl, hF⟩; have H1 := H.step hF (by simp); clear H; have H := H1; clear H1)
            go_wp2_with (first | ((first | (refine is_load rfl ?_; refine wl_ev rfl (by first | exact c_ld H rfl rfl | exact c_ld0 H rfl rfl | exact c_ldz H rfl rfl | exact c_ldr H rfl rfl) ?_) | (refine is_cmp rfl rfl ?_; first | (refine wl_ev rfl (by first | exact ev_cmpT rfl rfl rfl rfl | exact ev_cmpF rfl rfl rfl rfl | exact c_bNe rfl rfl rfl Try.underlying4 | exact c_bEq rfl rfl rfl Try.underlying4 | exact c_peq rfl rfl | exact c_pne rfl rfl | exact ev_strEq rfl rfl rfl | exact ev_strNe rfl rfl rfl) ?_) | (refine wl_cmp rfl rfl rfl rfl rfl (fun h => ?_) (fun h => ?_) <;> (simp only [cmpP] at h))) | (refine is_indexAddr rfl ?_; refine wl_ev rfl (c_ix rfl rfl rfl) ?_)) <;> (simp only [nrm, ↓reduceIte, Nat.reduceAdd]))  )
            (refine Calls.mono (liveB_any (Hin.out.fr H.fr (by simp)) (-1) false (is_out HJ.out.wf (.inl (by decide)))) ?_; rintro e w1 ⟨rfl, hF⟩; have H1 := H.step hF (by simp); clear H; have H := H1; clear H1)
            go_wp2_with (first | ((first | (refine is_load rfl ?_; refine wl_ev rfl (by first | exact c_ld H rfl rfl | exact c_ld0 H rfl rfl | exact c_ldz H rfl rfl | exact c_ldr H rfl rfl) ?_) | (refine is_cmp rfl rfl ?_; first | (refine wl_ev rfl (by first | exact ev_cmpT rfl rfl rfl rfl | exact ev_cmpF rfl rfl rfl rfl | exact c_bNe rfl rfl rfl Try.underlying4 | exact c_bEq rfl rfl rfl Try.underlying4 | exact c_peq rfl rfl | exact c_pne rfl rfl | exact ev_strEq rfl rfl rfl | exact ev_strNe rfl rfl rfl) ?_) | (refine wl_cmp rfl rfl rfl rfl rfl (fun h => ?_) (fun h => ?_) <;> (simp only [cmpP] at h))) | (refine is_indexAddr rfl ?_; refine wl_ev rfl (c_ix rfl rfl rfl) ?_)) <;> (simp only [nrm, ↓reduceIte, Nat.reduceAdd]))  )
            (refine Calls.mono (liveB_any (Hin.out.fr H.fr (by simp)) (s.tas.length : Int) false (is_out HJ.out.wf (.inr (by omega)))) ?_; rintro e w1 ⟨rfl, hF⟩; have H1 := H.step hF (by simp); clear H; have H := H1; clear H1)
            go_wp2_with (first | ((first | (refine is_load rfl ?_; refine wl_ev rfl (by first | exact c_ld H rfl rfl | exact c_ld0 H rfl rfl | exact c_ldz H rfl rfl | exact c_ldr H rfl rfl) ?_) | (refine is_cmp rfl rfl ?_; first | (refine wl_ev rfl (by first | exact ev_cmpT rfl rfl rfl rfl | exact ev_cmpF rfl rfl rfl rfl | exact c_bNe rfl rfl rfl Try.underlying4 | exact c_bEq rfl rfl rfl Try.underlying4 | exact c_peq rfl rfl | exact c_pne rfl rfl | exact ev_strEq rfl rfl rfl | exact ev_strNe rfl rfl rfl) ?_) | (refine wl_cmp rfl rfl rfl rfl rfl (fun h => ?_) (fun h => ?_) <;> (simp only [cmpP] at h))) | (refine is_indexAddr rfl ?_; refine wl_ev rfl (c_ix rfl rfl rfl) ?_)) <;> (simp only [nrm, ↓reduceIte, Nat.reduceAdd]))  )
            refine Calls.mono (readyB_any (Hin.out.fr H.fr (by simp)) (-1) 0 (by rw [HJ.out.none (.inl (by decide))]; rfl)) ?_
            rintro e w1 ⟨rv, rfl, hF, hown⟩
            obtain ⟨p8, c8, rfl⟩ : ∃ p c, rv = .slice p 0 c := by
              rcases hown.2 with ⟨rfl, _⟩ | ⟨g, cap, cur, rfl, _⟩
              · exact ⟨_, _, rfl⟩
              · exact ⟨_, _, rfl⟩
            have H1 := H.step hF (by simp)
            clear H hF hown
            have H := H1
            clear H1
            go_wp2_with (first | ((first | (refine is_load rfl ?_; refine wl_ev rfl (by first | exact c_ld H rfl rfl | exact c_ld0 H rfl rfl | exact c_ldz H rfl rfl | exact c_ldr H rfl rfl) ?_) | (refine is_cmp rfl rfl ?_; first | (refine wl_ev rfl (by first | exact ev_cmpT rfl rfl rfl rfl | exact ev_cmpF rfl rfl rfl rfl | exact c_bNe rfl rfl rfl Try.underlying4 | exact c_bEq rfl rfl rfl Try.underlying4 | exact c_peq rfl rfl | exact c_pne rfl rfl | exact ev_strEq rfl rfl rfl | exact ev_strNe rfl rfl rfl) ?_) | (refine wl_cmp rfl rfl rfl rfl rfl (fun h => ?_) (fun h => ?_) <;> (simp only [cmpP] at h))) | (refine is_indexAddr rfl ?_; refine wl_ev rfl (c_ix rfl rfl rfl) ?_)) <;> (simp only [nrm, ↓reduceIte, Nat.reduceAdd]))  )
            refine Calls.mono (readyB_any (Hin.out.fr H.fr (by simp)) (s.tas.length : Int) 0 (by rw [HJ.out.none (.inr (by omega))]; rfl)) ?_
            rintro e w1 ⟨rv, rfl, hF, hown⟩
            obtain ⟨p9, c9, rfl⟩ : ∃ p c, rv = .slice p 0 c := by
              rcases hown.2 with ⟨rfl, _⟩ | ⟨g, cap, cur, rfl, _⟩
              · exact ⟨_, _, rfl⟩
              · exact ⟨_, _, rfl⟩
            have H1 := H.step hF (by simp)
            clear H hF hown
            have H := H1
            clear H1
            go_wp2_with (first | ((first | (refine is_load rfl ?_; refine wl_ev rfl (by first | exact c_ld H rfl rfl | exact c_ld0 H rfl rfl | exact c_ldz H rfl rfl | exact c_ldr H rfl rfl) ?_) | (refine is_cmp rfl rfl ?_; first | (refine wl_ev rfl (by first | exact ev_cmpT rfl rfl rfl rfl | exact ev_cmpF rfl rfl rfl rfl | exact c_bNe rfl rfl rfl Try.underlying4 | exact c_bEq rfl rfl rfl Try.underlying4 | exact c_peq rfl rfl | exact c_pne rfl rfl | exact ev_strEq rfl rfl rfl | exact ev_strNe rfl rfl rfl) ?_) | (refine wl_cmp rfl rfl rfl rfl rfl (fun h => ?_) (fun h => ?_) <;> (simp only [cmpP] at h))) | (refine is_indexAddr rfl ?_; refine wl_ev rfl (c_ix rfl rfl rfl) ?_)) <;> (simp only [nrm, ↓reduceIte, Nat.reduceAdd]))  )
            go_ret
            exact ⟨rfl, H.fr⟩
end Go.Proofs.Ythlhjjokodmihaa
