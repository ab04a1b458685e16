import Derived.Test.YtomggcdmhflboaaGreatDoorXMc1
import Derived.Test.YtomggcdmhflboaaGreatDoorXPd1
import Derived.Test.YtomggcdmhflboaaGreatDoorXEa1
import Derived.Defers
import Derived.Recover
namespace Go.Proofs.YtomggcdmhflboaaGreatDoor
open Go.RowKit
set_option linter.unusedSimpArgs false
set_option linter.unusedVariables false
set_option maxHeartbeats 16000000
set_option maxRecDepth 100000
section
variable {P : Program} {a : Act} {w w0 : World} {o : Oper} {K : Act → World → Prop} {Q : Exit → Act → World → Prop} {T : List Nat} {l : List Ent} {L : List Value} {ds : List Deferred}
theorem rw_callP {f : FuncId} {al : List Operand} {ats : Array TypeId} (ho : o.op = .call { callee := .value (.func f), args := al.toArray, argTypes := ats }) {fn : Func} (hf : P.funcs[f]? = some fn) (hn : (fn.name == "runtime.NumGoroutine") = false) (hb : fn.body.isNone = false)
  {R : Ending → World → Prop} (hc : Calls P f (al.map a.eval).toArray w R) (h : ∀ e w', R e w' → ∃ ch, e = .panicked ch ∧ Q (.panic ch) a w') : o.wp P a w K Q := by
 have e1 : al.toArray.map a.eval = (al.map a.eval).toArray := by simp
 unfold Oper.wp execOp
 simp only [ho, resolve, Deferred.ofValue, invoke, callFunc, Sem.run_bind, Sem.run_pure, Result.andThen_ok, run_program, hf, hn, hb, Bool.false_eq_true, if_false, Oper.upon, Array.append_empty, Array.empty_append, e1, show a.eval (.func f) = .func (.func f) #[] #[] from rfl]
 refine Calls.mono hc (fun e w' hR => ?_)
 obtain ⟨v, rfl, hk⟩ := h e w' hR
 exact hk
variable {lo : List Oper} {S : World → Prop} {f i : Nat} {k : Plan}
theorem p_cp {fi : FuncId} {al : List Operand} {ats : Array TypeId} (hi : lo[i]? = some o) (ho : o.op = .call { callee := .value (.func fi), args := al.toArray, argTypes := ats }) {fn : Func} (hf : P.funcs[fi]? = some fn)
  {R : Ending → World → Prop} (hc : Calls P fi (al.map (Act.mk L.toArray ds).eval).toArray w R) (h : ∀ e w', R e w' → ∃ ch, e = .panicked ch ∧ Q (.panic ch) ⟨L.toArray, ds⟩ w')
  (hn : (fn.name == "runtime.NumGoroutine") = false := by kernel_rfl) (hb : fn.body.isNone = false := by rfl)
  (hw : Region.wanted o (yielded lo.toArray L.toArray) = true := by rfl) : Plan.wp P lo.toArray Q S f (.ld i k) ⟨L.toArray, ds⟩ w :=
 pl_rw hi hw fun K hK => rw_callP ho hf hn hb hc h
end
section
variable {P : Program} {ops : Array Oper} {Q : Exit → Act → World → Prop} {w w0 : World} {rest : List Oper} {o : Oper} {T : List Nat} {l : List Ent} {L : List Value} {ds : List Deferred}
end
theorem RdrAt.firm {g b c : Nat} {Ls : List (List UInt8)} {i : Nat} : Firm [g, b] (RdrAt g b c Ls i) := by
 refine ⟨fun w w' R k hn h => ?_, fun w h x hx => ?_, fun w h => ?_⟩
 ·exact ⟨k.get h.hg (hn g (by simp)), h.hne, Nat.lt_of_lt_of_le h.hb k.size, fun j s hj => k.cell (h.hc j s hj) (hn b (by simp)), h.hN, h.hl⟩
 ·simp only [List.mem_cons, List.not_mem_nil, or_false] at hx
  rcases hx with rfl | rfl
  ·exact lt_of_get h.hg
  ·exact h.hb
 ·exact List.nodup_cons.2 ⟨fun e => h.hne (List.mem_singleton.1 e).symm, by simp⟩
instance {g b c : Nat} {Ls : List (List UInt8)} {i : Nat} : Fm [g, b] (RdrAt g b c Ls i) := ⟨RdrAt.firm⟩
theorem RdrAt.start {g b c : Nat} {Ls : List (List UInt8)} {i : Nat} {w : World} (h : RdrAt g b c Ls i w) : Hp [g, b] w w [.obj 7 [g, b] (RdrAt g b c Ls i)] :=
 (Hp.start [g, b] w).pushObj 7 h RdrAt.firm (fun x hx => .inl hx) (by simp)
theorem RdrAt.cell {g b c : Nat} {Ls : List (List UInt8)} {i : Nat} {w : World} (h : RdrAt g b c Ls i w) : w.cell? ⟨g, 1, none⟩ = some (.int .i64 (i : Int)) := by
 simp only [World.cell?, h.hg]; rfl
def szP (Ls : List (List UInt8)) (i : Nat) (h : Hd) : Except (Nat × Nat) (Nat × Nat × Nat × Nat) :=
 match sig i (Ls.drop i) with
 | [] => .error (Ls.length + 1, 103)
 | (k, ws) :: _ => match sizes h ws with
  | .error e => .error (k, e)
  | .ok r => .ok (k, r)
def SzPost (o : Except (Nat × Nat) (Nat × Nat × Nat × Nat)) (g b c : Nat) (Ls : List (List UInt8)) (e : Ending) (w' : World) : Prop :=
 match o with
 | .error (k, x) => e = .panicked (failV k x)
 | .ok (k, m, n, z) => e = .returned (.tuple #[.int .i64 (m : Int), .int .i64 (n : Int), .int .i64 (z : Int)]) ∧ RdrAt g b c Ls k w'
theorem dgts_num (x : List UInt8) : (dgts x).2 = isNum x := by
 unfold dgts isNum
 by_cases h : x.all dig = true
 ·rw [if_pos h, h]; rfl
 ·rw [if_neg h]; rw [Bool.eq_false_iff.2 h]; rfl
def dnv (x : List UInt8) : Value := .int .i64 ((dgts x).1 : Int)
def szk (k : Nat) (ws : List (List UInt8)) : List Value := (ws.take k).map dnv ++ List.replicate (3 - k) (.int .i64 0)
theorem szk_next {ws : List (List UInt8)} {k : Nat} {x : List UInt8} (h : ws[k]? = some x) (h3 : k < 3) : (szk k ws).set k (dnv x) = szk (k + 1) ws := by
 have hlt := (List.getElem?_eq_some_iff.1 h).1
 unfold szk
 rw [List.set_append_right _ _ (by simp; omega)]
 simp only [List.length_map, List.length_take, Nat.min_eq_left (Nat.le_of_lt hlt), Nat.sub_self]
 obtain ⟨r, hr⟩ : ∃ r, 3 - k = r + 1 := ⟨3 - k - 1, by omega⟩
 rw [hr, List.replicate_succ, List.set_cons_zero, List.take_add_one, h, show 3 - (k + 1) = r by omega]
 simp only [Option.toList_some, List.map_append, List.map_cons, List.map_nil, List.append_assoc, List.singleton_append]
theorem num_min {x : List UInt8} (h : isNum x = true) : (dgts x).1 = min (num x) 1073741824 := by
 unfold isNum at h
 simp only [Bool.and_eq_true] at h
 unfold dgts; rw [if_pos h.1]
theorem ev_ix3 {a : Act} {w : World} {o : Oper} {x : Operand} {i : Int} (ho : o.op = .indexAddr 87 x (.const (.int .i64 i))) {b : Nat} (hx : a.eval x = .pointer (some ⟨b, 0, none⟩)) (h0 : 0 ≤ i) (h1 : i < 3) {k : Nat} (hk : k = i.toNat) :
  (execOp a.eval o).run Tryz.prog w = .ok (.value (.pointer (some ⟨b, k, none⟩))) w := by
 subst hk
 have hu : Tryz.prog.underlying 87 = some (.array 3 3) := Tryz.underlying87
 have hz : (sizeOf 3).run Tryz.prog w = .ok 1 w := Tryz.sizeOf3 w
 have ec : a.eval (.const (.int .i64 i)) = .int .i64 i := rfl
 unfold execOp
 simp only [ho, hx, ec, Instr.indexAt, Sem.run_bind, asIntOf, Sem.run_pure, Result.andThen_ok, run_underlying hu]
 simp [h0, h1, hz, add_mk, Instr.sureAddr]
theorem three_of {ws : List (List UInt8)} (h : ws.length = 3) : ∃ a b c, ws = [a, b, c] := by
 match ws, h with
 | [a, b, c], _ => exact ⟨a, b, c, rfl⟩
theorem two_of {ws : List (List UInt8)} (h : ws.length = 2) : ∃ a b, ws = [a, b] := by
 match ws, h with
 | [a, b], _ => exact ⟨a, b, rfl⟩
theorem sizes3 {field sym : Nat} {x y z : List UInt8} (hA : [x, y, z].all isNum = true) (hL : sym = 0 ∨ lead x = lead y) : sizes ⟨false, field, sym⟩ [x, y, z] =
  if num x ≤ 200 ∧ num y ≤ 200 ∧ num z ≤ 10000 ∧ (sym = 0 ∨ 2 * num z ≤ 10000) then .ok (num x, num y, num z) else .error 6 := by
 unfold sizes; rw [if_pos ⟨rfl, hA, hL⟩]; rfl
theorem sizes2 {field sym : Nat} {x y : List UInt8} (hA : [x, y].all isNum = true) (hL : sym = 0 ∨ lead x = lead y) : sizes ⟨true, field, sym⟩ [x, y] =
  if num x ≤ 200 ∧ num y ≤ 200 ∧ stored sym (num x) (num y) ≤ 10000 ∧ (sym = 0 ∨ 2 * stored sym (num x) (num y) ≤ 10000) then .ok (num x, num y, stored sym (num x) (num y)) else .error 6 := by
 unfold sizes; rw [if_pos ⟨rfl, hA, hL⟩]; rfl
theorem sizesL {arr : Bool} {field sym : Nat} {x y : List UInt8} {r : List (List UInt8)} (hs : sym ≠ 0) (hL : lead x ≠ lead y) : sizes ⟨arr, field, sym⟩ (x :: y :: r) = .error 101 := by
 unfold sizes; rw [if_neg (fun k => k.2.2.elim hs hL)]
end Go.Proofs.YtomggcdmhflboaaGreatDoor
namespace Go.Proofs.YtomggcdmhflboaaGreatDoor
open Go.RowKit
set_option linter.unusedSimpArgs false
set_option linter.unusedVariables false
set_option maxHeartbeats 8000000
set_option maxRecDepth 100000
attribute [local irreducible] wpList Plan.wp
def fileZ : List Value := [.int .i64 0, .int .i64 0, .slice none 0 0, .slice none 0 0, .slice none 0 0, .bool false, .int .i64 0, .int .i64 0]
theorem fileZ_one : ∀ v ∈ fileZ, v.oneCell' = true := by
 unfold fileZ
 intro v hv
 simp only [List.mem_cons, List.not_mem_nil, or_false] at hv
 rcases hv with rfl | rfl | rfl | rfl | rfl | rfl | rfl | rfl <;> rfl
theorem as_fail (v : Value) (w : World) : (Instr.typeAssert (.iface 48 v) 20 48 false).run Tryz.prog w = .ok v w := by kernel_rfl
section
variable {a : Act} {w : World} {o : Oper}
theorem ev_file0 (ho : o.op = .build 30 #[]) : (execOp a.eval o).run Tryz.prog w = .ok (.value (.agg fileZ.toArray)) w := by
 have hb : Tryz.prog.built 30 [] = some fileZ.toArray := by kernel_rfl
 have e1 : ((#[] : Array (Nat × Operand)).map fun (i, x) => (i, a.eval x)).toList = [] := by simp
 unfold execOp
 simp only [ho, Sem.run_bind]
 rw [run_build w 30 _ _ (by rw [e1]; exact hb)]
 rfl
theorem ev_ta {x : Operand} (ho : o.op = .typeAssert x 20 48 false) {v : Value} (hx : a.eval x = .iface 48 v) : (execOp a.eval o).run Tryz.prog w = .ok (.value v) w := by
 unfold execOp
 simp [ho, hx, as_fail]
end
section
variable {P : Program} {Q : Exit → Act → World → Prop} {a : Act} {w w0 : World} {o : Oper} {K : Act → World → Prop} {T : List Nat} {l : List Ent}
theorem c_stW (H : Hp T w0 w l) {t : TypeId} {x y : Operand} (ho : o.op = .store t x y) {b : Nat} {vs : List Value} (hx : a.eval x = .pointer (some ⟨b, 0, none⟩)) (hy : a.eval y = .agg vs.toArray) {n : Nat} [hs : Ro P t n] {cs : List Value} {t' : TypeId} {f : Nat → List Value → List Ent} [hm : In b cs t' l f] (hn : vs.length = n := by rfl) (hc : cs.length = n) (h1 : ∀ v ∈ vs, v.oneCell' = true)
  (h : ∀ w', Fr [b] w w' → Hp T w0 w' (f b vs) → K (a.put o.dst undef) w') : o.wp P a w K Q :=
 c_stn H ho hx (vs := vs) hy hn h1 (by omega) (fun w' hf H1 => h w' hf (by rw [over_all (by omega)] at H1; exact H1))
end
theorem catch_idle (gf gl ge : Nat) (w : World) :
  CallsD Tryz.prog 17 #[.pointer (some ⟨gf, 0, none⟩), .pointer (some ⟨gl, 0, none⟩), .pointer (some ⟨ge, 0, none⟩)] .returning w fun e u' w' => e = .returned (.tuple #[]) ∧ u' = .returning ∧ w' = w := by
 refine callsD_of_wpS Tryz.func17 rfl fun c₀ cs hu => ?_
 apply wpS_seq
 apply wpS_region
 simp [wpOpsS, go_sem, recoverD, hu, Tryz.ntmps17, Exit.thenS]
 apply wpS_seq
 apply wpS_region
 simp [wpOpsS, go_sem, Exit.thenS]
 refine wpS_cond (t := false) (by simp [Act.eval, Array.replicate]) ?_
 simp only [Bool.false_eq_true, if_false]
 refine wpS_of_wp (wp_skip ?_)
 cases c₀
 simp_all [bodyPostS, results, Tryz.results17]
theorem catch_bad (gf gl ge : Nat) (w : World) (k x : Int) {cf : List Value} (hcf : cf.length = 8) (H0 : Hp [gf, gl, ge] w w [.blk ge [.int .i64 0] 31, .blk gl [.int .i64 0] 3, .blk gf cf 30]) :
  CallsD Tryz.prog 17 #[.pointer (some ⟨gf, 0, none⟩), .pointer (some ⟨gl, 0, none⟩), .pointer (some ⟨ge, 0, none⟩)] (.panicking (failV k x)) w fun e u' w' =>
   e = .returned (.tuple #[]) ∧ u' = .panicking [{ v := .iface 48 (.agg #[.int .i64 k, .int .i64 x]), recovered := true }] ∧ Hp [gf, gl, ge] w w' [.blk ge [.int .i64 x] 31, .blk gl [.int .i64 k] 3, .blk gf fileZ 30] := by
 refine callsD_of_wpS Tryz.func17 rfl fun c₀ cs hu => ?_
 apply wpS_seq
 apply wpS_region
 unfold failV at hu
 simp [wpOpsS, go_sem, recoverD, hu, Tryz.ntmps17, Exit.thenS]
 apply wpS_seq
 apply wpS_region
 simp [wpOpsS, go_sem, Exit.thenS]
 refine wpS_cond (t := true) (by simp [Act.eval, Array.replicate]) ?_
 simp only [if_true]
 refine wpS_of_wp ?_
 change Code.wp _ _ _ ⟨#[.pointer (some ⟨gf, 0, none⟩), .pointer (some ⟨gl, 0, none⟩), .pointer (some ⟨ge, 0, none⟩), .iface 48 (.agg #[.int .i64 k, .int .i64 x]), undef, .iface 48 (.agg #[.int .i64 k, .int .i64 x]), .iface 48 (.agg #[.int .i64 k, .int .i64 x]), .bool true, undef, undef, undef, undef, undef, undef, undef], []⟩ _
 have H := H0
 clear H0
 go_wp2_with (first | refine x_e (ev_ta rfl rfl) ?_ | refine x_q H ?_ | refine x_cm (fun h => ?_) (fun h => ?_) | refine x_l H ?_ | (revert H; (first | (refine x_g ?_; (first | (have hh := g5; clear hh; intro g6 w1 hg hf H) | (have hh := g4; clear hh; intro g5 w1 hg hf H) | (have hh := g3; clear hh; intro g4 w1 hg hf H) | (have hh := g2; clear hh; intro g3 w1 hg hf H) | (have hh := g1; clear hh; intro g2 w1 hg hf H) | (have hh := g0; clear hh; intro g1 w1 hg hf H) | intro g0 w1 hg hf H); (first | replace hf := hf.kp | clear hf)) | (refine x_s ?_; intro w1 hf H; (first | replace hf := hf.kp | clear hf)) | (refine x_sF ?_; intro w1 hf H hk; clear hf hk))))
 (revert H; refine w_p 7 (.st 0 (.st 1 (.st 2 (.st 3 (.st 4 (.ld 5 (.ld 6 (.ld 7 .done)))))))) ?_ (hs := (.cons_cons _ (List.nil_sublist _))); intro w1 H)
 (refine p_e rfl (fun w H => ev_file0 rfl) ?_)
 iterate 4 refine p_q ?_
 (revert H; refine p_s (he := fun H K hK => c_stW H rfl rfl rfl (hc := hcf) (h1 := fileZ_one) (h := hK)) ?_; intro w1 hf H; clear hf)
 (revert H; refine p_s ?_; intro w1 hf H; (first | replace hf := hf.kp | clear hf))
 (revert H; refine p_s ?_; intro w1 hf H; (first | replace hf := hf.kp | clear hf))
 (refine pl_done ?_)
 go_wp2_with (first | refine x_q H ?_ | refine x_cm (fun h => ?_) (fun h => ?_) | refine x_l H ?_ | (revert H; (first | (refine x_g ?_; (first | (have hh := g5; clear hh; intro g6 w1 hg hf H) | (have hh := g4; clear hh; intro g5 w1 hg hf H) | (have hh := g3; clear hh; intro g4 w1 hg hf H) | (have hh := g2; clear hh; intro g3 w1 hg hf H) | (have hh := g1; clear hh; intro g2 w1 hg hf H) | (have hh := g0; clear hh; intro g1 w1 hg hf H) | intro g0 w1 hg hf H); (first | replace hf := hf.kp | clear hf)) | (refine x_s ?_; intro w1 hf H; (first | replace hf := hf.kp | clear hf)) | (refine x_sF ?_; intro w1 hf H hk; clear hf hk))))
 have H2 : Hp [gf, gl, ge] w w1 [.blk ge [.int .i64 x] 31, .blk gl [.int .i64 k] 3, .blk gf fileZ 30] := H.arr (by repeat (first | exact Pm.nil _ | (apply Pm.cons; · (repeat first | exact Rm.here _ | apply Rm.there))))
 clear H
 cases c₀
 simp_all [bodyPostS, results, Tryz.results17]
end Go.Proofs.YtomggcdmhflboaaGreatDoor
