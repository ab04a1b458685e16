import Derived.Test.YtomggcdmhflboaaGreatDoorXSx
import Derived.Laws.StructEq
import Derived.Test.YtomggcdmhflboaaGreatDoorXMc5
import Derived.Test.YtomggcdmhflboaaGreatDoorXMb7
namespace Go.Proofs.YtomggcdmhflboaaGreatDoor
open Go.RowKit
set_option linter.unusedSimpArgs false
set_option linter.unusedVariables false
def keyV (p : Nat × Nat) : Value := .agg #[.int .i64 (p.1 : Int), .int .i64 (p.2 : Int)]
def mapSet (w : World) (m : Nat) (o : Obj) : World := { w with heap := w.heap.setIfInBounds m o }
def SeenAt (m : Nat) (ks : List (Nat × Nat)) (S : List Nat) (w : World) : Prop :=
 ∃ es clk, S = [m] ∧ w.heap[m]? = some (.map es clk) ∧ es.toList.map (fun e => (e.key, e.val)) = ks.map fun p => (keyV p, Value.bool true)
theorem SeenAt.firm {m : Nat} {ks : List (Nat × Nat)} {S : List Nat} : Firm S (SeenAt m ks S) := by
 refine ⟨fun w w' R k hn h => ?_, fun w h x hx => ?_, fun w h => ?_⟩
 ·obtain ⟨es, clk, rfl, h2, h3⟩ := h
  exact ⟨es, clk, rfl, k.get h2 (hn m (by simp)), h3⟩
 ·obtain ⟨es, clk, rfl, h2, h3⟩ := h
  simp only [List.mem_singleton] at hx; subst hx; exact lt_of_get h2
 ·obtain ⟨es, clk, rfl, _⟩ := h; simp
instance {m : Nat} {ks : List (Nat × Nat)} {S : List Nat} : Fm S (SeenAt m ks S) := ⟨SeenAt.firm⟩
theorem run_keyEq (w : World) (p q : Nat × Nat) : (Op.equal 92 (keyV p) (keyV q)).run Tryz.prog w = .ok (p == q) w := by
 obtain ⟨a, b⟩ := p
 obtain ⟨c, d⟩ := q
 have e1 : (Op.equalIn 9999 3 (.int .i64 (a : Int)) (.int .i64 (c : Int))).run Tryz.prog w = .ok ((a : Int) == c) w := run_equalIn_int w 9998 3 .i64 .i64 _ _ Tryz.underlying3
 have e2 : (Op.equalIn 9999 3 (.int .i64 (b : Int)) (.int .i64 (d : Int))).run Tryz.prog w = .ok ((b : Int) == d) w := run_equalIn_int w 9998 3 .i64 .i64 _ _ Tryz.underlying3
 have ez : (sizeOf 3).run Tryz.prog w = .ok 1 w := Tryz.sizeOf3 w
 have ea : (isAgg 3).run Tryz.prog w = .ok false w := Tryz.isAgg3 w
 have er : List.range' 0 2 = [0, 1] := rfl
 unfold Op.equal keyV
 show (Op.equalIn (9999 + 1) _ _ _).run _ _ = _
 unfold Op.equalIn
 simp only [Sem.run_bind, run_underlying Tryz.underlying92, Result.andThen_ok, ez, part, ea]
 simp [Std.Legacy.Range.forIn_eq_forIn_range', Std.Legacy.Range.size, er, ez, ea, e1, e2, part]
 by_cases h1 : a = c
 ·by_cases h2 : b = d
  ·subst h1 h2; simp
  ·have h3 : ¬ (b : Int) = d := by omega
   have h4 : ((a, b) == (c, d)) = false := by simp [h2]
   rw [h4]; simp [h1, h2, h3]
 ·have h3 : ¬ (a : Int) = c := by omega
  have h4 : ((a, b) == (c, d)) = false := by simp [h1]
  rw [h4]; simp [h1, h3]
theorem run_keyCheck (w : World) (em : Bool) (p : Nat × Nat) : (Instr.checkKey em 10000 92 (keyV p)).run Tryz.prog w = .ok () w := by
 obtain ⟨a, b⟩ := p
 have e1 : ∀ z : Int, (Instr.checkKey em 9999 3 (.int .i64 z)).run Tryz.prog w = .ok () w := by
  intro z
  show (Instr.checkKey em (9998 + 1) 3 (.int .i64 z)).run _ _ = _
  unfold Instr.checkKey
  simp only [Sem.run_bind, run_underlying Tryz.underlying3, Result.andThen_ok, Sem.run_pure]
 have ez : (sizeOf 3).run Tryz.prog w = .ok 1 w := Tryz.sizeOf3 w
 have ea : (isAgg 3).run Tryz.prog w = .ok false w := Tryz.isAgg3 w
 have er : List.range' 0 2 = [0, 1] := rfl
 unfold keyV
 show (Instr.checkKey em (9999 + 1) _ _).run _ _ = _
 unfold Instr.checkKey
 simp only [Sem.run_bind, run_underlying Tryz.underlying92, Result.andThen_ok]
 simp [Std.Legacy.Range.forIn_eq_forIn_range', Std.Legacy.Range.size, er, ez, ea, e1, part]
theorem run_findAsk (w : World) (p : Nat × Nat) : ∀ (ks : List (Nat × Nat)) (es : List MapEntry) (i : Nat), es.map (fun e => (e.key, e.val)) = (ks.map fun p => (keyV p, Value.bool true)) →
  (p ∉ ks ∧ (Instr.findAsking 92 (keyV p) es i).run Tryz.prog w = .ok none w) ∨ (p ∈ ks ∧ ∃ j, (Instr.findAsking 92 (keyV p) es i).run Tryz.prog w = .ok (some (j, .bool true)) w)
 | [], es, i, h => by
  have h0 : es = [] := by simpa using h
  subst h0
  exact .inl ⟨by simp, rfl⟩
 | q :: ks, [], i, h => by simp at h
 | q :: ks, e :: es, i, h => by
  simp only [List.map_cons, List.cons.injEq, Prod.mk.injEq] at h
  obtain ⟨⟨h1, h2⟩, h3⟩ := h
  have he : (Op.equal 92 (keyV p) e.key).run Tryz.prog w = .ok (p == q) w := by rw [h1]; exact run_keyEq w p q
  unfold Instr.findAsking
  simp only [Sem.run_bind, he, Result.andThen_ok]
  by_cases hp : p = q
  ·right
   refine ⟨by simp [hp], i, ?_⟩
   rw [if_pos (by simpa using hp), h2]
   rfl
  ·rw [if_neg (by simpa using hp)]
   rcases run_findAsk w p ks es (i + 1) h3 with ⟨a, b⟩ | ⟨a, j, b⟩
   ·exact .inl ⟨by simp [hp, a], b⟩
   ·exact .inr ⟨by simp [a], j, b⟩
theorem run_findKey (w : World) (p : Nat × Nat) (ks : List (Nat × Nat)) (es : List MapEntry) (h : es.map (fun e => (e.key, e.val)) = (ks.map fun p => (keyV p, Value.bool true))) :
  (p ∉ ks ∧ (Instr.findKey 92 (keyV p) es).run Tryz.prog w = .ok none w) ∨ (p ∈ ks ∧ ∃ j, (Instr.findKey 92 (keyV p) es).run Tryz.prog w = .ok (some (j, .bool true)) w) := by
 unfold Instr.findKey
 simp only [Sem.run_bind, run_underlying Tryz.underlying92, Result.andThen_ok]
 cases es with
 | nil =>
  have h0 : ks = [] := by simpa using h.symm
  subst h0
  exact .inl ⟨by simp, rfl⟩
 | cons e r =>
  cases ks with
  | nil => simp at h
  | cons q ks =>
   have hn : Instr.findNow (.array 2 3) (keyV p) (e :: r) 0 = none := by unfold Instr.findNow; rfl
   rw [hn]
   exact run_findAsk w p (q :: ks) (e :: r) 0 h
section
variable {P : Program} {Q : Exit → Act → World → Prop} {a : Act} {w w0 : World} {o : Oper} {K : Act → World → Prop} {T : List Nat} {l : List Ent}
theorem c_look {m k : Nat} {S : List Nat} {ks : List (Nat × Nat)} (H : Hp T w0 w l) (hm : Ent.obj k S (SeenAt m ks S) ∈ l) {x y : Operand} (ho : o.op = .lookup 90 x y false) (hx : a.eval x = .map (some m)) {p : Nat × Nat} (hy : a.eval y = keyV p) {b : Bool} (hb : Hid (ks.contains p = b)) :
  (execOp a.eval o).run Tryz.prog w = .ok (.value (.bool b)) w := by
 obtain ⟨es, clk, rfl, h2, h3⟩ := (H.ok _ hm).1
 have hz : (zeroValue 4).run Tryz.prog w = .ok (.bool false) w := Tryz.zeroValue4 w
 have hob : (getObj m).run Tryz.prog w = .ok (.map es clk) w := by simp [getObj, Sem.run, h2]
 have e : (Instr.lookup 90 (.map (some m)) (keyV p) false).run Tryz.prog w = .ok (.bool b) w := by
  unfold Instr.lookup
  simp only [Sem.run_bind, run_underlying Tryz.underlying90, Result.andThen_ok, hob, Sem.run_pure, run_keyCheck]
  rcases run_findKey w p ks es.toList h3 with ⟨h4, h5⟩ | ⟨h4, j, h5⟩
  ·rw [h5]
   have : b = false := by rw [← hb.out]; simpa using h4
   subst this
   simp [hz]
  ·rw [h5]
   have : b = true := by rw [← hb.out]; simpa using h4
   subst this
   simp
 unfold execOp
 simp only [ho, hx, hy, Sem.run_bind, e, Result.andThen_ok, Sem.run_pure]
theorem c_upd {m k : Nat} {S : List Nat} {ks : List (Nat × Nat)} (H : Hp T w0 w (.obj k S (SeenAt m ks S) :: l)) {x y : Operand} (ho : o.op = .mapUpdate 90 x y (.const (.bool true))) (hx : a.eval x = .map (some m)) {p : Nat × Nat} (hy : a.eval y = keyV p) (hp : Hid (ks.contains p = false))
  (h : ∀ w', Fr S w w' → Hp T w0 w' (.obj k S (SeenAt m (ks ++ [p]) S) :: l) → K (a.put o.dst undef) w') : o.wp Tryz.prog a w K Q := by
 obtain ⟨es, clk, rfl, h2, h3⟩ := (H.ok _ (.head _)).1
 have hob : (getObj m).run Tryz.prog w = .ok (.map es clk) w := by simp [getObj, Sem.run, h2]
 have e : (Instr.mapUpdate 90 (.map (some m)) (keyV p) (.bool true)).run Tryz.prog w = .ok () (mapSet w m (.map (es.push { key := keyV p, val := .bool true, born := clk }) (clk + 1))) := by
  unfold Instr.mapUpdate
  simp only [Sem.run_bind, run_underlying Tryz.underlying90, Result.andThen_ok, hob, Sem.run_pure, run_keyCheck]
  rcases run_findKey w p ks es.toList h3 with ⟨h4, h5⟩ | ⟨h4, j, h5⟩
  ·rw [h5]
   simp [setObj, Sem.run, h2, mapSet]
  ·have := hp.out
   simp at this
   exact absurd h4 this
 have hlt : m < w.heap.size := lt_of_get h2
 have hF : Fr [m] w (mapSet w m (.map (es.push { key := keyV p, val := .bool true, born := clk }) (clk + 1))) :=
  ⟨rfl, rfl, rfl, by simp [mapSet], fun k _ hn => by simp only [mapSet]; rw [Array.getElem?_setIfInBounds_ne (fun e => hn (by simp [e]))]⟩
 have ec : a.eval (.const (.bool true)) = .bool true := rfl
 refine wp_of_skip ?_ (h _ hF (H.upd k hF (S' := [m]) ⟨es.push { key := keyV p, val := .bool true, born := clk }, clk + 1, rfl, by simp [mapSet, hlt], by simp [h3]⟩ (by simp)))
 unfold execOp; simp only [ho, hx, hy, ec, Sem.run_bind, e, Result.andThen_ok, Sem.run_pure]
theorem c_mm (H : Hp T w0 w l) (k : Nat) {r : Option Operand} (ho : o.op = .makeMap 90 none)
  (h : ∀ m w', Fr [] w w' → Hp T w0 w' (.obj k [m] (SeenAt m [] [m]) :: l) → K (a.put o.dst (.map (some m))) w') : o.wp P a w K Q := by
 have hF : Fr [] w (w.alloc (.map #[] 0)) := Fr.alloc [] w _
 refine wp_of_run (v := .map (some w.heap.size)) ?_ (h w.heap.size _ hF (H.born k hF ⟨#[], 0, rfl, heap_alloc_new w _, rfl⟩ SeenAt.firm (by simp)))
 unfold execOp
 simp [ho, Instr.makeMap, newObj, Sem.run]
end
end Go.Proofs.YtomggcdmhflboaaGreatDoor
namespace Go.Proofs.YtomggcdmhflboaaGreatDoor
open Go.RowKit
set_option linter.unusedSimpArgs false
set_option linter.unusedVariables false
set_option maxHeartbeats 8000000
set_option maxRecDepth 100000
attribute [local irreducible] wpList Code.wp Plan.wp
section
variable {P : Program} {ops : Array Oper} {Q : Exit → Act → World → Prop} {w w0 : World} {rest : List Oper} {o : Oper} {T : List Nat} {l : List Ent} {L : List Value} {ds : List Deferred}
theorem ev_eqI {a : Act} {t t' : TypeId} {x y : Operand} (ho : o.op = .binOp .eql t x y t') {k : IntKind} {m n : Int} (hx : a.eval x = .int k m) (hy : a.eval y = .int k n) {b : Bool} (h : Hid (decide (m = n) = b)) : (execOp a.eval o).run P w = .ok (.value (.bool b)) w := by
 have h := h.out
 by_cases k : m = n
 ·rw [decide_eq_true k] at h; subst h; exact ev_cmpT ho hx hy rfl k
 ·rw [decide_eq_false k] at h; subst h; exact ev_cmpF ho hx hy rfl k
theorem x_mm (H : Hp T w0 w l) (k : Nat) (ho : o.op = .makeMap 90 none) {L' : Nat → List Value} (h : ∀ m w', Fr [] w w' → Hp T w0 w' (.obj k [m] (SeenAt m [] [m]) :: l) → wpList P ops Q rest ⟨(L' m).toArray, ds⟩ w')
  (hw : Region.wanted o (yielded ops L.toArray) = true := by rfl)
  (hs : ∀ g, putL L o.dst (.map (some g)) = L' g := by intro g; ((try simp only [nrm, putL_s, putL_n, ↓reduceIte, Nat.reduceAdd]); (try exact rfl))) : wpList P ops Q (o :: rest) ⟨L.toArray, ds⟩ w :=
 wl_rw hw fun K hK => c_mm (r := none) H k ho fun m w' h1 h2 => hK _ _ (by rw [put_eq, hs]; exact h m w' h1 h2)
theorem x_mu {m k : Nat} {S : List Nat} {ks : List (Nat × Nat)} (H : Hp T w0 w (.obj k S (SeenAt m ks S) :: l)) {x y : Operand} (ho : o.op = .mapUpdate 90 x y (.const (.bool true))) (hx : (Act.mk L.toArray ds).eval x = .map (some m)) {p : Nat × Nat} (hy : (Act.mk L.toArray ds).eval y = keyV p) (hp : Hid (ks.contains p = false)) {L' : List Value}
  (h : ∀ w', Fr S w w' → Hp T w0 w' (.obj k S (SeenAt m (ks ++ [p]) S) :: l) → wpList Tryz.prog ops Q rest ⟨L'.toArray, ds⟩ w')
  (hw : Region.wanted o (yielded ops L.toArray) = true := by rfl)
  (hs : putL L o.dst undef = L' := by ((try simp only [nrm, putL_s, putL_n, ↓reduceIte, Nat.reduceAdd]); (try exact rfl))) : wpList Tryz.prog ops Q (o :: rest) ⟨L.toArray, ds⟩ w :=
 wl_rw hw fun K hK => c_upd H ho hx hy hp fun w' h1 h2 => hK _ _ (by rw [put_eq, hs]; exact h w' h1 h2)
end
def EsPost (o : Except (Nat × Nat) (List En × List (Nat × List (List UInt8)))) (w : World) (g b c : Nat) (Ls : List (List UInt8)) (e : Ending) (w' : World) : Prop :=
 match o with
 | .error (k, x) => e = .panicked (failV k x)
 | .ok (L, rest) => ∃ v k, e = .returned v ∧ w'.ownsRow w.heap.size 69 3 v L.length (L.flatMap eC) ∧ RdrAt g b c Ls k w' ∧ rest = sig k (Ls.drop k) ∧ k ≤ Ls.length + 1 ∧ ∀ x ∈ L, x.2.2 < 18446744073709551616
def eStep (h : Hd) (m n N k : Nat) (L : List En) (i : Nat) (r : List (Nat × List (List UInt8))) (o : Option En) : Except (Nat × Nat) (List En × List (Nat × List (List UInt8))) :=
 match o with
 | none => .error (i, 102)
 | some x => if seen L x then .error (i, 102) else ents h m n N k (L ++ [x]) r
theorem ents_step (h : Hd) (m n N k : Nat) (L : List En) (i : Nat) (ws : List (List UInt8)) (r : List (Nat × List (List UInt8))) : ents h m n N (k + 1) L ((i, ws) :: r) = eStep h m n N k L i r (one h m n L.length ws) := rfl
theorem one_co {field sym m n k : Nat} {ws : List (List UInt8)} : one ⟨false, field, sym⟩ m n k ws = coE ⟨false, field, sym⟩ m n ws := rfl
theorem seen_ks (L : List En) (x : En) : (L.map fun y => (y.1, y.2.1)).contains (x.1, x.2.1) = seen L x := by
 unfold seen
 rw [List.contains_eq_any_beq, List.any_map]
 congr 1
 funext y
 show ((x.1, x.2.1) == (y.1, y.2.1)) = _
 rw [Bool.eq_iff_iff]
 simp only [beq_iff_eq, Prod.mk.injEq, Bool.and_eq_true]
 exact ⟨fun h => ⟨h.1.symm, h.2.symm⟩, fun h => ⟨h.1.symm, h.2.symm⟩⟩
set_option maxHeartbeats 32000000 in
theorem entries_f {g b c i : Nat} {Ls : List (List UInt8)} {w : World} (hR : RdrAt g b c Ls i w) (hi : i ≤ Ls.length + 1) (field sym m n z : Nat) (hs2 : sym ≤ 2) (hf2 : field ≤ 2) (hm : m ≤ 200) (hn : n ≤ 200) (hz : z ≤ 10000) (hT : ∀ w', Fr [g, b] w w' → La w') {o : Except (Nat × Nat) (List En × List (Nat × List (List UInt8)))} (ho : Hid (ents ⟨false, field, sym⟩ m n (Ls.length + 1) z [] (sig i (Ls.drop i)) = o)) :
  Calls Tryz.prog 22 #[.pointer (some ⟨g, 0, none⟩), fileV ⟨false, field, sym⟩, .int .i64 (m : Int), .int .i64 (n : Int), .int .i64 (z : Int)] w fun e w' => Fr [g, b] w w' ∧ EsPost o w g b c Ls e w' := by
 have HT := hid hT
 have H := hR.start.newRow 0 (e := 69) (sz := 3)
 clear hR hT
 unfold fileV
 go_enter Tryz.func22, Tryz.ntmps22
 go_wp2_with (first | refine x_q H ?_ | refine x_cm (fun h => ?_) (fun h => ?_) | refine x_l H ?_ | (refine x_mm H 1 rfl ?_; clear H; intro mm w1 hf H; clear hf) | (revert H; (first | (refine x_g ?_; intro g1 w1 hg hf H) | (refine x_s ?_; intro w1 hf H) | (refine x_sF ?_; intro w1 hf H hk; clear hf hk)); (first | replace hf := hf.kp | clear hf)))
 go_loopw [13, 27] (fun s13 s27 wr => ∃ (j k : Nat) (L : List En) (v : Value) (S : List Nat), s27 = .int .i64 (j : Int) ∧ j ≤ z ∧ s13 = v ∧ L.length = j ∧ k ≤ Ls.length + 1 ∧ Hid (ents ⟨false, field, sym⟩ m n (Ls.length + 1) (z - j) L (sig k (Ls.drop k)) = o) ∧ Hid (∀ x ∈ L, x.2.2 < 18446744073709551616) ∧ Hp [g, b] w wr [.obj 1 [mm] (SeenAt mm (L.map fun y => (y.1, y.2.1)) [mm]), .blk g1 [.int .i64 0, .int .i64 0, .slice none 0 0, .slice none 0 0, .slice none 0 0, .bool false, .int .i64 (field : Int), .int .i64 (sym : Int)] 30, .obj 0 S (RowAt 69 3 v L.length (L.flatMap eC) S), .obj 7 [g, b] (RdrAt g b c Ls k)]) (fun _ v _ => z - (intOf v).toNat)
 case atStart => exact ⟨0, i, [], _, _, rfl, Nat.zero_le _, rfl, rfl, hi, ho, hid (by simp), H⟩
 case round =>
  clear H
  obtain ⟨j, k, L, v, S, rfl, hj, hv, hL, hk, HO, HB, H⟩ := hrel
  obtain ⟨p5, c5, he, _, hc5, _⟩ := (H.rowo 0).form
  unfold maxLen at hc5
  subst he
  subst hv
  subst hL
  have hLz : L.length ≤ 10000 := by omega
  by_cases hlt : L.length < z
  ·have HO1 := hid (show ents ⟨false, field, sym⟩ m n (Ls.length + 1) (z - (L.length + 1) + 1) L (sig k (Ls.drop k)) = o by rw [show z - (L.length + 1) + 1 = z - L.length by omega]; exact HO.out)
   clear HO ho
   go_wp2_with (first | refine x_q H ?_ | refine x_cm (fun h => ?_) (fun h => ?_) | refine x_l H ?_ | (revert H; (first | (refine x_g ?_; intro g1 w1 hg hf H) | (refine x_s ?_; intro w1 hf H) | (refine x_sF ?_; intro w1 hf H hk; clear hf hk)); (first | replace hf := hf.kp | clear hf)))
   (have hR0 := H.ob 7; refine Calls.mono (line_any hR0 hk) ?_; rintro e w1 ⟨v, i', rfl, hF0, hR1, hcase⟩; have hF1 := hF0.mono (S := [g, b]) (by simp); have H1 := H.upd (w' := w1) 7 hF1 (S' := [g, b]) hR1 (by simp))
   clear hR0 hF0 hR1
   rcases hcase with ⟨hs, rfl, rfl⟩ | ⟨ws, r, q, hs, rfl, hq, hc⟩
   ·have HO : Hid (o = .error (Ls.length + 1, 103)) := hid (by rw [← HO1.out, hs]; rfl)
    clear H hs hF1
    have H := H1
    clear H1
    go_wp2_with (first | refine x_q H ?_ | refine x_cm (fun h => ?_) (fun h => ?_) | refine x_l H ?_ | (revert H; (first | (refine x_g ?_; intro g1 w1 hg hf H) | (refine x_s ?_; intro w1 hf H) | (refine x_sF ?_; intro w1 hf H hk; clear hf hk)); (first | replace hf := hf.kp | clear hf)))
    (refine x_c H (demand_bad _ _ _ _ (H.ob 7).cell) ?_; clear H; rintro e w1 ⟨rfl, hF⟩ H; clear hF; refine ⟨rfl, ?_⟩)
    exact ⟨H.fr, by rw [HO.out]; rfl⟩
   ·have H2 := H1.push (b := q) hc (.inr (Nat.le_trans H.fr.size hq)) (H.notOwn hq)
    have hnx := sig_next hs
    have hi'k : i' ≤ Ls.length + 1 := by omega
    have HRest := hid hnx.2.2.1
    have hwz : ∀ x ∈ ws, x.length ≤ 2000000 := by
     obtain ⟨_, _, _, _, s, hsm, rfl⟩ := hnx
     intro x hx
     exact Nat.le_trans (mwords_size hx) ((H1.ob 7).hl s hsm)
    have hwn : ws.length ≤ 2000001 := by
     obtain ⟨_, _, _, _, s, hsm, rfl⟩ := hnx
     have := mwords_count s
     have := (H1.ob 7).hl s hsm
     omega
    obtain ⟨o1, ho1⟩ : ∃ o1, coE ⟨false, field, sym⟩ m n ws = o1 := ⟨_, rfl⟩
    have HE := hid ho1
    have HO2 := hid (show eStep ⟨false, field, sym⟩ m n (Ls.length + 1) (z - (L.length + 1)) L i' r o1 = o by rw [← HO1.out, hs, ents_step, one_co, ho1])
    clear H H1 hs hF1 hc hnx HO1 ho1
    have H := H2
    clear H2
    have HWZ := hid hwz
    clear hwz hq
    obtain ⟨l1, hl1⟩ : ∃ l1, decide ((ws.length : Int) = 1) = l1 := ⟨_, rfl⟩
    have HL1 := hid hl1
    clear hl1
    go_wp2_with (first | refine x_q H ?_ | refine x_cm (fun h => ?_) (fun h => ?_) | refine x_l H ?_ | (revert H; (first | (refine x_g ?_; intro g1 w1 hg hf H) | (refine x_s ?_; intro w1 hf H) | (refine x_sF ?_; intro w1 hf H hk; clear hf hk)); (first | replace hf := hf.kp | clear hf)))
    (refine x_c H (demand_ok _ _ _) ?_; clear H; rintro e w1 ⟨rfl, hF⟩ H; clear hF)
    go_wp2_with (first | refine x_e (ev_eqI rfl rfl rfl HL1) ?_ | refine x_q H ?_ | refine x_cm (fun h => ?_) (fun h => ?_) | refine x_l H ?_ | (revert H; (first | (refine x_g ?_; intro g1 w1 hg hf H) | (refine x_s ?_; intro w1 hf H) | (refine x_sF ?_; intro w1 hf H hk; clear hf hk)); (first | replace hf := hf.kp | clear hf)))
    (refine x_c H (entry_any _ ⟨false, field, sym⟩ hs2 hf2 m n hm hn (H.at q) hwn HWZ.out (HT.out _ H.fr) HE) ?_ (fun _ _ h => h.1); clear H; rintro e w1 ⟨hF, ⟨xr, xc, xv⟩, bb, rfl, hbb, hx, hxB⟩ H; clear hF; simp only [eC])
    clear HL1 HE HWZ hwn
    cases o1 with
    | none =>
     have hb : bb = false := hbb
     subst hb
     have HO : Hid (o = .error (i', 102)) := hid HO2.out.symm
     clear HO2 hbb hx
     go_wp2_with (first | refine x_q H ?_ | refine x_cm (fun h => ?_) (fun h => ?_) | refine x_l H ?_ | (revert H; (first | (refine x_g ?_; intro g1 w1 hg hf H) | (refine x_s ?_; intro w1 hf H) | (refine x_sF ?_; intro w1 hf H hk; clear hf hk)); (first | replace hf := hf.kp | clear hf)))
     (refine x_c H (demand_bad _ _ _ _ (H.ob 7).cell) ?_; clear H; rintro e w1 ⟨rfl, hF⟩ H; clear hF; refine ⟨rfl, ?_⟩)
     exact ⟨H.fr, by rw [HO.out]; rfl⟩
    | some y =>
     have hb : bb = true := hbb
     have hy := hx y rfl
     subst hb
     subst hy
     clear hbb hx
     obtain ⟨s, hs0⟩ : ∃ s, seen L (xr, xc, xv) = s := ⟨_, rfl⟩
     have HSN := hid ((seen_ks L (xr, xc, xv)).trans hs0)
     cases s
     ·have HO3 := hid (show ents ⟨false, field, sym⟩ m n (Ls.length + 1) (z - (L.length + 1)) (L ++ [(xr, xc, xv)]) r = o by rw [← HO2.out]; unfold eStep; simp only [hs0]; rfl)
      clear HO2 hs0
      go_wp2_with (first | refine x_q H ?_ | refine x_cm (fun h => ?_) (fun h => ?_) | refine x_l H ?_ | refine x_e (c_look H (.tail _ (.tail _ (.tail _ (.head _)))) rfl rfl (p := (xr, xc)) rfl HSN) ?_ | (revert H; (first | (refine x_g ?_; intro g1 w1 hg hf H) | (refine x_s ?_; intro w1 hf H) | (refine x_sF ?_; intro w1 hf H hk; clear hf hk)); (first | replace hf := hf.kp | clear hf)))
      (refine x_c H (demand_ok _ _ _) ?_; clear H; rintro e w1 ⟨rfl, hF⟩ H; clear hF)
      go_wp2_with (first | refine x_q H ?_ | refine x_cm (fun h => ?_) (fun h => ?_) | refine x_l H ?_ | (refine x_mu (H.pull 1) rfl rfl (p := (xr, xc)) rfl HSN ?_; clear H; intro w1 hf H; clear hf) | (refine is_blt (b := .append) rfl ?_; go_loud (refine wl_rw rfl (fun K hK => c_aprS H rfl rfl rfl 0 (H.rd (b := g1) (off := 0) (vs := eC (xr, xc, xv)) List.prefix_rfl) rfl (eC_one _) (by omega) (by unfold maxLen; omega) (fun p1 c1 w1 S' hf H1 => hK _ _ ?_))); (clear hK K); (clear H; have H := H1; clear H1; (try dsimp only at H); (first | replace hf := hf.kp | clear hf)); (simp only [nrm, ↓reduceIte, Nat.reduceAdd])) | (revert H; (first | (refine x_g ?_; intro g1 w1 hg hf H) | (refine x_s ?_; intro w1 hf H) | (refine x_sF ?_; intro w1 hf H hk; clear hf hk)); (first | replace hf := hf.kp | clear hf)))
      go_roundw
      case rel => exact ⟨L.length + 1, i', L ++ [(xr, xc, xv)], _, S', rfl, by omega, rfl, by rw [List.length_append]; rfl, by omega, by rw [← HRest.out]; exact HO3, hid (fun y hy => by rcases List.mem_append.1 hy with k | k; exact HB.out y k; rw [List.mem_singleton] at k; subst k; exact hxB), by rw [List.map_append, List.length_append, List.flatMap_append]; exact H.sub (by repeat first | exact List.Sublist.refl _ | exact List.nil_sublist _ | apply List.Sublist.cons_cons | apply List.Sublist.cons)⟩
      case measure => (simp [intOf]; try omega)
     ·have HO : Hid (o = .error (i', 102)) := hid (by rw [← HO2.out]; unfold eStep; simp only [hs0]; rfl)
      clear HO2 hs0
      go_wp2_with (first | refine x_q H ?_ | refine x_cm (fun h => ?_) (fun h => ?_) | refine x_l H ?_ | refine x_e (c_look H (.tail _ (.tail _ (.tail _ (.head _)))) rfl rfl (p := (xr, xc)) rfl HSN) ?_ | (revert H; (first | (refine x_g ?_; intro g1 w1 hg hf H) | (refine x_s ?_; intro w1 hf H) | (refine x_sF ?_; intro w1 hf H hk; clear hf hk)); (first | replace hf := hf.kp | clear hf)))
      (refine x_c H (demand_bad _ _ _ _ (H.ob 7).cell) ?_; clear H; rintro e w1 ⟨rfl, hF⟩ H; clear hF; refine ⟨rfl, ?_⟩)
      exact ⟨H.fr, by rw [HO.out]; rfl⟩
  ·have HO2 : Hid (o = .ok (L, sig k (Ls.drop k))) := hid (by rw [← HO.out, show z - L.length = 0 by omega]; rfl)
   clear HO ho
   go_wp2_with (first | refine x_q H ?_ | refine x_cm (fun h => ?_) (fun h => ?_) | refine x_l H ?_ | (revert H; (first | (refine x_g ?_; intro g1 w1 hg hf H) | (refine x_s ?_; intro w1 hf H) | (refine x_sF ?_; intro w1 hf H hk; clear hf hk)); (first | replace hf := hf.kp | clear hf)))
   (refine bodyPost_ret (results_tmp rfl _ _ _) rfl ?_)
   refine ⟨H.fr, ?_⟩
   rw [HO2.out]
   exact ⟨_, k, rfl, RowAt.owns (H.rowo 0) (fun x hx => (H.home 0 x hx).resolve_left (fun h => two_apart (k := 0) (k' := 7) (S := S) (S' := [g, b]) (Q := RowAt 69 3 (.slice p5 L.length c5) L.length (L.flatMap eC) S) (Q' := RdrAt g b c Ls k) (H.sub (by repeat first | exact List.Sublist.refl _ | exact List.nil_sublist _ | apply List.Sublist.cons_cons | apply List.Sublist.cons)) x hx h)), H.ob 7, rfl, hk, HB.out⟩
end Go.Proofs.YtomggcdmhflboaaGreatDoor
