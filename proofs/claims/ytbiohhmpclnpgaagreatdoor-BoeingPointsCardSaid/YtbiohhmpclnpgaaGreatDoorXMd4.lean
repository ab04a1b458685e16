import Derived.Test.YtbiohhmpclnpgaaGreatDoorXMd3
namespace Go.Proofs.YtbiohhmpclnpgaaGreatDoor
open Go.RowKit
set_option linter.unusedSimpArgs false
set_option linter.unusedVariables false
set_option maxHeartbeats 8000000
set_option maxRecDepth 100000
attribute [local irreducible] wpList Code.wp Plan.wp stsE mixE pre cntE
def uV (n : Nat) : Value := .int .u64 (n : Int)
section
variable {P : Program} {a : Act} {w : World} {o : Oper}
theorem ev_ixE {t : TypeId} {x ix : Operand} (i q : Nat) (ho : o.op = .indexAddr t x ix) {b p n c : Nat} {k : IntKind} {z : Int} (hx : a.eval x = .slice (some ⟨b, p, none⟩) n c) (hi : a.eval ix = .int k z) (hz : Hid (z = (i : Int))) {e : TypeId} {zl : List Value} {s by' : Nat} [h : Si P t e zl s by'] (hq : p + i * s = q := by omega) (h1 : i < n := by omega) : (execOp a.eval o).run P w = .ok (.value (.pointer (some ⟨b, q, none⟩))) w := by
 rw [hz.out] at hi
 rw [← hq]
 exact ev_indexAddr ho hx hi h.h (by omega) (by omega)
theorem RowAt.cell {e : TypeId} {sz b c n p : Nat} {xs : List Value} {S : List Nat} {v : Value} (h : RowAt e sz (.slice (some ⟨b, 0, none⟩) n c) n xs S w) (hv : xs[p]? = some v) : w.cell? ⟨b, p, none⟩ = some v := by
 obtain ⟨h0, ⟨_, _, h3⟩ | ⟨g, cap, pad, rfl, h1, h2, h3, h4, h5⟩⟩ := h
 ·cases h3
 ·cases h1
  rw [cell_of_row w b _ _ _ _ h5]
  simpa using (by rw [List.getElem?_append_left (List.getElem?_eq_some_iff.1 hv).1]; exact hv : (xs ++ pad)[p]? = some v)
theorem RowAt.some {e : TypeId} {sz n : Nat} {xs : List Value} {S : List Nat} {v : Value} (h : RowAt e sz v n xs S w) (hn : 0 < n) : ∃ g c, v = .slice (some ⟨g, 0, none⟩) n c ∧ S = [g] := by
 obtain ⟨h0, ⟨_, h2, h3⟩ | ⟨g, cap, pad, rfl, h1, h2, h3, h4, h5⟩⟩ := h
 ·omega
 ·exact ⟨g, cap, h1, rfl⟩
theorem c_lnO {t : TypeId} {x : Operand} (ho : o.op = .load t x) {b p : Nat} (hx : a.eval x = .pointer (some ⟨b, p, none⟩)) {n : Nat} [s : Ro P t n] {e : TypeId} {sz c m : Nat} {xs : List Value} {S : List Nat} (hr : RowAt e sz (.slice (some ⟨b, 0, none⟩) m c) m xs S w) {vs : List Value} (hv : vs <+: xs.drop p) (hn : vs.length = n) : (execOp a.eval o).run P w = .ok (.value (.agg vs.toArray)) w :=
 ev_loadN ho hx (by rw [hn]; exact s.h) fun j v hj => hr.cell (by
  obtain ⟨r, hr⟩ := hv
  have hlt := (List.getElem?_eq_some_iff.1 hj).1
  have : (xs.drop p)[j]? = some v := by rw [← hr, List.getElem?_append_left hlt]; exact hj
  simpa using this)
theorem c_l1O {t : TypeId} {x : Operand} (ho : o.op = .load t x) {b p : Nat} (hx : a.eval x = .pointer (some ⟨b, p, none⟩)) [s : Sc P t] {e : TypeId} {sz c m : Nat} {xs : List Value} {S : List Nat} (hr : RowAt e sz (.slice (some ⟨b, 0, none⟩) m c) m xs S w) {v : Value} (hv : xs[p]? = some v) : (execOp a.eval o).run P w = .ok (.value v) w :=
 ev_load ho hx s.h (hr.cell hv)
end
section
variable {P : Program} {Q : Exit → Act → World → Prop} {a : Act} {w w0 : World} {o : Oper} {K : Act → World → Prop} {T : List Nat} {l : List Ent}
theorem c_mkN (m : Nat) (H : Hp T w0 w l) {t : TypeId} {lx : Operand} (ho : o.op = .makeSlice t lx lx) {kl : IntKind} {n : Int} (hl : a.eval lx = .int kl n) (hz : Hid (n = (m : Int))) {e : TypeId} {z : List Value} {s by' : Nat} [hs : Si P t e z s by']
  (hb : by' * m ≤ 281474976710656 := by omega) (h63 : m ≤ 100000000 := by omega)
  (h : ∀ g w', w0.heap.size ≤ g ∧ w.heap.size ≤ g → Fr [] w w' → Hp T w0 w' (.blk g (List.replicate m z).flatten e :: l) → K (a.put o.dst (.slice (some ⟨g, 0, none⟩) m m)) w') : o.wp P a w K Q := by
 rw [hz.out] at hl
 refine c_mk H ho hl hl (hs := hs) (by omega) (Int.le_refl _) (by rw [← Int.natCast_mul]; exact Int.ofNat_le.2 hb) (by omega) (fun g w' h1 h2 h3 => ?_)
 exact h g w' h1 h2 h3
end
def Mat3 (st ix vl : List Nat) (v1 v2 v3 : Value) (B : List Nat) (w : World) : Prop :=
 ∃ S1 S2 S3, B = S1 ++ (S2 ++ S3) ∧ B.Nodup ∧ RowAt 3 1 v1 st.length (st.map iV) S1 w ∧ RowAt 3 1 v2 ix.length (ix.map iV) S2 w ∧ RowAt 25 1 v3 vl.length (vl.map uV) S3 w
def MatR (rows cols : Nat) (st ix vl : List Nat) (w : World) (e : Ending) (w' : World) : Prop :=
 ∃ v1 v2 v3 B, e = .returned (.agg #[iV rows, iV cols, v1, v2, v3]) ∧ Fr [] w w' ∧ Mat3 st ix vl v1 v2 v3 B w' ∧ ∀ x ∈ B, w.heap.size ≤ x
theorem Hp.mat {T : List Nat} {w0 w w' : World} {l : List Ent} (H : Hp T w0 w l) (k1 k2 k3 : Nat) {st ix vl : List Nat} {v1 v2 v3 : Value} {B : List Nat} (hF : Fr [] w w') (h : Mat3 st ix vl v1 v2 v3 B w') (hB : ∀ x ∈ B, w.heap.size ≤ x) :
  ∃ S1 S2 S3, Hp T w0 w' (.obj k1 S1 (RowAt 3 1 v1 st.length (st.map iV) S1) :: .obj k2 S2 (RowAt 3 1 v2 ix.length (ix.map iV) S2) :: .obj k3 S3 (RowAt 25 1 v3 vl.length (vl.map uV) S3) :: l) := by
 obtain ⟨S1, S2, S3, rfl, hn, h1, h2, h3⟩ := h
 simp only [List.nodup_append, List.mem_append] at hn
 have k0 := H.step hF (by simp)
 have nw : ∀ x, w.heap.size ≤ x → x ∉ l.flatMap Ent.own := fun x hx => H.notOwn hx
 have nb : ∀ x, w.heap.size ≤ x → x ∈ T ∨ w0.heap.size ≤ x := fun x hx => .inr (Nat.le_trans H.fr.size hx)
 have q3 := k0.pushObj k3 h3 RowAt.firm (fun x hx => nb x (hB x (by simp [hx]))) (fun x hx => nw x (hB x (by simp [hx])))
 have q2 := q3.pushObj k2 h2 RowAt.firm (fun x hx => nb x (hB x (by simp [hx]))) (fun x hx => by
  rw [List.flatMap_cons, List.mem_append, not_or]
  exact ⟨fun h => hn.2.1.2.2 x hx x h rfl, nw x (hB x (by simp [hx]))⟩)
 have q1 := q2.pushObj k1 h1 RowAt.firm (fun x hx => nb x (hB x (by simp [hx]))) (fun x hx => by
  rw [List.flatMap_cons, List.flatMap_cons, List.mem_append, List.mem_append, not_or, not_or]
  exact ⟨fun h => hn.2.2 x hx x (.inl h) rfl, fun h => hn.2.2 x hx x (.inr h) rfl, nw x (hB x (by simp [hx]))⟩)
 exact ⟨S1, S2, S3, q1⟩
theorem mat_mk {w : World} {st ix vl : List Nat} {v1 v2 v3 : Value} {S1 S2 S3 : List Nat} {r1 r2 r3 : List Value} {n1 n2 n3 : Nat} (hn : (S1 ++ (S2 ++ S3)).Nodup) (h1 : RowAt 3 1 v1 n1 r1 S1 w) (h2 : RowAt 3 1 v2 n2 r2 S2 w) (h3 : RowAt 25 1 v3 n3 r3 S3 w)
  (e1 : r1 = st.map iV) (e2 : r2 = ix.map iV) (e3 : r3 = vl.map uV) (f1 : n1 = st.length) (f2 : n2 = ix.length) (f3 : n3 = vl.length) : Mat3 st ix vl v1 v2 v3 (S1 ++ (S2 ++ S3)) w := by
 subst e1 e2 e3 f1 f2 f3
 exact ⟨S1, S2, S3, rfl, hn, h1, h2, h3⟩
theorem Hp.fresh {w0 w : World} {l : List Ent} (H : Hp [] w0 w l) : ∀ x ∈ l.flatMap Ent.own, w0.heap.size ≤ x := by
 intro x hx
 obtain ⟨e, he, hx⟩ := List.mem_flatMap.1 hx
 have h := H.ok e he
 cases e with
 | blk b cs t =>
  simp only [Ent.own, List.mem_singleton] at hx
  subst hx
  exact h.2.resolve_left (by simp)
 | rng b off cs => simp [Ent.own] at hx
 | obj k S Q => exact (h.2.2 x hx).resolve_left (by simp)
theorem rep_sts (cols : Nat) : (List.replicate (cols + 1) [Value.int .i64 0]).flatten = (stsE [] cols).map iV := by
 rw [stsE_nil, List.map_replicate]
 generalize cols + 1 = n
 induction n with
 | zero => rfl
 | succ n ih => rw [List.replicate_succ, List.flatten_cons, ih]; rfl
theorem tk_snoc {α : Type} {S : List α} {k : Nat} {x : α} (h : S[k]? = some x) : S.take (k + 1) = S.take k ++ [x] := by rw [List.take_add_one, h]; rfl
theorem pre_of {P : List En} {k : Nat} {x : En} (h : P[k]? = some x) : eC x <+: (P.flatMap eC).drop (k * 3) := by
 obtain ⟨hl, he⟩ := List.getElem?_eq_some_iff.1 h
 have e1 : P = P.take k ++ x :: P.drop (k + 1) := by rw [← he, List.getElem_cons_drop, List.take_append_drop]
 have h1 := flatE_at (P.take k) (P.drop (k + 1)) x []
 rw [← e1, List.length_take, Nat.min_eq_left (by omega), List.append_nil] at h1
 exact h1
theorem set_iV {l l' : List Nat} {i n : Nat} (h : l.set i n = l') : (l.map iV).set i (iV n) = l'.map iV := by rw [← h, List.map_set]
set_option maxHeartbeats 32000000 in
theorem build_any (w : World) (rows cols : Nat) (hc : cols ≤ 200) {p : Option Addr} {c : Nat} (E E' : List En) (hr : Rd w (.slice p E.length c) E.length (E.flatMap eC)) (hE : E.length ≤ 20) (hE' : ∀ S : List En, E.Perm S → S.Pairwise leE → S = E') (hcol : ∀ x ∈ E, x.2.1 < cols) :
  Calls Tryz.prog 165 #[.int .i64 (rows : Int), .int .i64 (cols : Int), .slice p E.length c] w (MatR rows cols ((List.range (cols + 1)).map (pre E')) (E'.map (·.1)) (E'.map (·.2.2)) w) := by
 have HR := hid hr
 have HE' := hid hE'
 have HCO := hid hcol
 clear hr hE' hcol
 have H := ((Hp.start [] w).newRow 3 (e := 25) (sz := 1)).newRow 2 (e := 3) (sz := 1)
 have HC1 := hid (show (cols : Int) + 1 = ((cols + 1 : Nat) : Int) by omega)
 go_enter Tryz.func165, Tryz.ntmps165
 go_wp2_with (first | (revert H; refine x_g (he := fun H K hK => c_mkN (cols + 1) H rfl rfl HC1 (h := hK)) ?_; (first | (have hh := g3; clear hh; intro g4 w1 hg hf H) | (have hh := g2; clear hh; intro g3 w1 hg hf H) | (have hh := g1; clear hh; intro g2 w1 hg hf H) | (have hh := g0; clear hh; intro g1 w1 hg hf H) | intro g0 w1 hg hf H); (first | replace hf := hf.kp | clear hf)) | refine x_q H ?_ | (revert H; refine x_g ?_; (first | (have hh := g3; clear hh; intro g4 w1 hg hf H) | (have hh := g2; clear hh; intro g3 w1 hg hf H) | (have hh := g1; clear hh; intro g2 w1 hg hf H) | (have hh := g0; clear hh; intro g1 w1 hg hf H) | intro g0 w1 hg hf H); replace hf := hf.kp) | (revert H; refine x_sF ?_; intro w1 hf H hk; clear hf hk; (first | replace hf := hf.kp | clear hf)))
 refine Calls.mono (sorted20 _ E (HR.out.fr H.fr (by simp)) hE) ?_
 rintro e w1 ⟨vs, rfl, hF, S, hSl, hown, hp, hs⟩
 obtain ⟨Ss, H1⟩ := H.rowNew 1 hF hown
 clear H hF hown
 have H := H1
 clear H1
 obtain rfl : S = E' := HE'.out S hp hs
 have HCO2 := hid (fun x (hx : x ∈ S) => HCO.out x (hp.mem_iff.2 hx))
 obtain ⟨N, hN⟩ : ∃ N, S.length = N := ⟨_, rfl⟩
 rw [← hSl, hN] at H hE
 have HN := hid hN
 have hcE := hid (fun j => cntE_le S j)
 clear HE' HCO HR hp hs hSl hN HC1
 obtain ⟨p5, c5, rfl, _⟩ := (H.rowo 1).form
 go_wp2_with fail
 rw [rep_sts] at H
 go_loopw [20] (fun s20 wr => ∃ (k : Nat) (p2 p3 : Option Addr) (c2 c3 : Nat) (S2 S3 : List Nat), s20 = .int .i64 (k : Int) ∧ k ≤ N ∧ Hp [] w wr [.blk g2 [.int .i64 (rows : Int), .int .i64 (cols : Int), .slice (some ⟨g1, 0, none⟩) (cols + 1) (cols + 1), .slice p2 k c2, .slice p3 k c3] 32, .blk g1 ((stsE (S.take k) cols).map iV) 3, .obj 2 S2 (RowAt 3 1 (.slice p2 k c2) k ((S.take k).map fun x => iV x.1) S2), .obj 3 S3 (RowAt 25 1 (.slice p3 k c3) k ((S.take k).map fun x => uV x.2.2) S3), .obj 1 Ss (RowAt 131 3 (.slice p5 N c5) N (S.flatMap eC) Ss), .blk g0 [.int .i64 0, .int .i64 0, .slice none 0 0, .slice none 0 0, .slice none 0 0] 32]) (fun v _ => N - (intOf v).toNat)
 case atStart =>
  refine ⟨0, none, none, 0, 0, [], [], rfl, Nat.zero_le _, ?_⟩
  (refine Hp.arr H ?_; repeat (first | exact Pm.nil _ | (apply Pm.cons; · (repeat first | exact Rm.here _ | apply Rm.there))))
 case round =>
  clear H
  obtain ⟨k, p2, p3, c2, c3, S2, S3, rfl, hk, H⟩ := hrel
  by_cases hlt : k < N
  ·obtain ⟨⟨xr, xc, xv⟩, hx⟩ : ∃ x, S[k]? = some x := ⟨_, List.getElem?_eq_getElem (by rw [HN.out]; exact hlt)⟩
   have hxc : xc < cols := HCO2.out _ (List.mem_of_getElem? hx)
   have hpre : [.int .i64 (xr : Int), .int .i64 (xc : Int), .int .u64 (xv : Int)] <+: (S.flatMap eC).drop (k * 3) := pre_of hx
   have HT := hid (tk_snoc hx)
   obtain ⟨A, hA⟩ : ∃ A, S.take k = A := ⟨_, rfl⟩
   have hAl : A.length = k := by rw [← hA, List.length_take, HN.out]; omega
   have hst : ((stsE A cols).map iV)[xc + 1]? = some (.int .i64 (cntE A xc : Int)) := by rw [List.getElem?_map, stsE_at hxc]; rfl
   have hcn : cntE A xc ≤ 20 := by have := cntE_le A xc; omega
   have hsl : xc + 1 < ((stsE A cols).map iV).length := by rw [List.length_map, stsE_len]; omega
   rw [hA] at H HT
   have HAl := hid hAl
   have HC1 := hid (show (xc : Int) + 1 = ((xc + 1 : Nat) : Int) by omega)
   obtain ⟨gs, cs, hvs, rfl⟩ := (H.rowo 1).some (by omega)
   cases hvs
   clear hx hA hAl
   go_wp2_with (first | refine x_e (c_lnO rfl rfl (H.rowo 1) hpre rfl) ?_ | refine x_q H ?_ | (revert H; refine x_g ?_; (first | (have hh := g3; clear hh; intro g4 w1 hg hf H) | (have hh := g2; clear hh; intro g3 w1 hg hf H) | (have hh := g1; clear hh; intro g2 w1 hg hf H) | (have hh := g0; clear hh; intro g1 w1 hg hf H) | intro g0 w1 hg hf H); replace hf := hf.kp) | (revert H; refine x_sF ?_; intro w1 hf H hk; clear hf hk; (first | replace hf := hf.kp | clear hf)))
   (revert H; refine w_p 13 (.st 0 (.st 1 (.st 2 (.st 3 (.st 6 (.st 7 (.st 8 (.st 9 (.ld2 4 (.ld2 5 (.st 12 (.ld 10 (.ld 11 (.ldf 13 (.st 14 (.ld 15 .done)))))) 10 (.ld 5 (.st 12 (.ld 11 (.ldf 13 (.st 14 (.ld 15 .done))))))) 10 (.ld 4 (.ld 5 (.st 12 (.ld 11 (.ldf 13 (.st 14 (.ld 15 .done)))))))))))))))) ?_ (hs := (.cons_cons _ (.cons_cons _ (.cons_cons _ (List.nil_sublist _))))); intro w1 H)
   iterate 8 refine p_q ?_
   (refine pl_ld2 ?_ ?_)
   (revert H; refine p_g ?_; intro gi w1 hg hf H; (first | replace hf := hf.kp | clear hf))
   (refine pl_ld2 ?_ ?_)
   (go_loud (refine pl_rw rfl rfl (fun K hK => c_aprS H rfl rfl rfl 2 (H.rd (b := gi) (off := 0) (vs := [.int .i64 (xr : Int)]) List.prefix_rfl) rfl (by simp [Value.oneCell']) (by omega) (by unfold maxLen; omega) (fun p2' c2' w1 S2' hf H1 => hK _ _ (fun hne => by first | exact absurd rfl hne | exact trivial | exact H1.sub (by repeat first | exact List.Sublist.refl _ | exact List.nil_sublist _ | apply List.Sublist.cons_cons | apply List.Sublist.cons)) ?_))); (clear hK K); (clear H; have H := H1; clear H1; (try dsimp only at H); (first | replace hf := hf.kp | clear hf)); (simp only [nrm, ↓reduceIte, Nat.reduceAdd]))
   refine p_q ?_
   (revert H; refine p_g ?_; intro gv w1 hg hf H; (first | replace hf := hf.kp | clear hf))
   (go_loud (refine pl_rw rfl rfl (fun K hK => c_aprS H rfl rfl rfl 3 (H.rd (b := gv) (off := 0) (vs := [.int .u64 (xv : Int)]) List.prefix_rfl) rfl (by simp [Value.oneCell']) (by omega) (by unfold maxLen; omega) (fun p3' c3' w1 S3' hf H1 => hK _ _ (fun hne => by first | exact absurd rfl hne | exact trivial | exact H1.sub (by repeat first | exact List.Sublist.refl _ | exact List.nil_sublist _ | apply List.Sublist.cons_cons | apply List.Sublist.cons)) ?_))); (clear hK K); (clear H; have H := H1; clear H1; (try dsimp only at H); (first | replace hf := hf.kp | clear hf)); (simp only [nrm, ↓reduceIte, Nat.reduceAdd]))
   (revert H; refine p_sf ?_; intro w1 hf H; (first | replace hf := hf.kp | clear hf))
   refine p_q ?_
   (revert H; refine p_s ?_; intro w1 hf H; (first | replace hf := hf.kp | clear hf))
   (refine pl_done ?_)
   rotate_left
   (revert H; refine p_g ?_; intro gv w1 hg hf H; (first | replace hf := hf.kp | clear hf))
   (go_loud (refine pl_rw rfl rfl (fun K hK => c_aprS H rfl rfl rfl 2 (H.rd (b := gi) (off := 0) (vs := [.int .i64 (xr : Int)]) List.prefix_rfl) rfl (by simp [Value.oneCell']) (by omega) (by unfold maxLen; omega) (fun p2' c2' w1 S2' hf H1 => hK _ _ (fun hne => by first | exact absurd rfl hne | exact trivial | exact H1.sub (by repeat first | exact List.Sublist.refl _ | exact List.nil_sublist _ | apply List.Sublist.cons_cons | apply List.Sublist.cons)) ?_))); (clear hK K); (clear H; have H := H1; clear H1; (try dsimp only at H); (first | replace hf := hf.kp | clear hf)); (simp only [nrm, ↓reduceIte, Nat.reduceAdd]))
   refine p_q ?_
   (go_loud (refine pl_rw rfl rfl (fun K hK => c_aprS H rfl rfl rfl 3 (H.rd (b := gv) (off := 0) (vs := [.int .u64 (xv : Int)]) List.prefix_rfl) rfl (by simp [Value.oneCell']) (by omega) (by unfold maxLen; omega) (fun p3' c3' w1 S3' hf H1 => hK _ _ (fun hne => by first | exact absurd rfl hne | exact trivial | exact H1.sub (by repeat first | exact List.Sublist.refl _ | exact List.nil_sublist _ | apply List.Sublist.cons_cons | apply List.Sublist.cons)) ?_))); (clear hK K); (clear H; have H := H1; clear H1; (try dsimp only at H); (first | replace hf := hf.kp | clear hf)); (simp only [nrm, ↓reduceIte, Nat.reduceAdd]))
   (revert H; refine p_sf ?_; intro w1 hf H; (first | replace hf := hf.kp | clear hf))
   refine p_q ?_
   (revert H; refine p_s ?_; intro w1 hf H; (first | replace hf := hf.kp | clear hf))
   (refine pl_done ?_)
   rotate_left
   (revert H; refine p_g ?_; intro gv w1 hg hf H; (first | replace hf := hf.kp | clear hf))
   (revert H; refine p_g ?_; intro gi w1 hg hf H; (first | replace hf := hf.kp | clear hf))
   (go_loud (refine pl_rw rfl rfl (fun K hK => c_aprS H rfl rfl rfl 2 (H.rd (b := gi) (off := 0) (vs := [.int .i64 (xr : Int)]) List.prefix_rfl) rfl (by simp [Value.oneCell']) (by omega) (by unfold maxLen; omega) (fun p2' c2' w1 S2' hf H1 => hK _ _ (fun hne => by first | exact absurd rfl hne | exact trivial | exact H1.sub (by repeat first | exact List.Sublist.refl _ | exact List.nil_sublist _ | apply List.Sublist.cons_cons | apply List.Sublist.cons)) ?_))); (clear hK K); (clear H; have H := H1; clear H1; (try dsimp only at H); (first | replace hf := hf.kp | clear hf)); (simp only [nrm, ↓reduceIte, Nat.reduceAdd]))
   refine p_q ?_
   (go_loud (refine pl_rw rfl rfl (fun K hK => c_aprS H rfl rfl rfl 3 (H.rd (b := gv) (off := 0) (vs := [.int .u64 (xv : Int)]) List.prefix_rfl) rfl (by simp [Value.oneCell']) (by omega) (by unfold maxLen; omega) (fun p3' c3' w1 S3' hf H1 => hK _ _ (fun hne => by first | exact absurd rfl hne | exact trivial | exact H1.sub (by repeat first | exact List.Sublist.refl _ | exact List.nil_sublist _ | apply List.Sublist.cons_cons | apply List.Sublist.cons)) ?_))); (clear hK K); (clear H; have H := H1; clear H1; (try dsimp only at H); (first | replace hf := hf.kp | clear hf)); (simp only [nrm, ↓reduceIte, Nat.reduceAdd]))
   (revert H; refine p_sf ?_; intro w1 hf H; (first | replace hf := hf.kp | clear hf))
   refine p_q ?_
   (revert H; refine p_s ?_; intro w1 hf H; (first | replace hf := hf.kp | clear hf))
   (refine pl_done ?_)
   rotate_left
   all_goals
    go_wp2_with (first | refine x_e (ev_ixE (xc + 1) (xc + 1) rfl rfl rfl HC1) ?_ | refine x_q H ?_ | (revert H; refine x_s ?_; intro w1 hf H; clear hf))
    go_roundw
    case rel =>
     refine ⟨k + 1, p2', p3', c2', c3', S2', S3', rfl, by omega, ?_⟩
     have e1 : ((stsE A cols).map iV).set (xc + 1) (.int .i64 ((cntE A xc : Int) + 1)) = (stsE (A ++ [(xr, xc, xv)]) cols).map iV := set_iV (stsE_next (x := (xr, xc, xv)) hxc)
     rw [HT.out, ← e1, List.map_append, List.map_append]
     (refine Hp.arr H ?_; repeat (first | exact Pm.nil _ | (apply Pm.cons; · (repeat first | exact Rm.here _ | apply Rm.there))))
    case measure => (simp [intOf]; try omega)
  ·have e0 : S.take k = S := List.take_of_length_le (by rw [HN.out]; omega)
   have hkN : k = N := by omega
   rw [e0, ← mixE_zero] at H
   subst hkN
   clear e0
   go_wp2_with (refine x_q H ?_)
   go_loopw [49] (fun s49 wr => ∃ j : Nat, s49 = .int .i64 (j : Int) ∧ j ≤ cols ∧ Hp [] w wr [.blk g2 [.int .i64 (rows : Int), .int .i64 (cols : Int), .slice (some ⟨g1, 0, none⟩) (cols + 1) (cols + 1), .slice p2 k c2, .slice p3 k c3] 32, .blk g1 ((mixE S cols j).map iV) 3, .obj 2 S2 (RowAt 3 1 (.slice p2 k c2) k (S.map fun x => iV x.1) S2), .obj 3 S3 (RowAt 25 1 (.slice p3 k c3) k (S.map fun x => uV x.2.2) S3), .blk g0 [.int .i64 0, .int .i64 0, .slice none 0 0, .slice none 0 0, .slice none 0 0] 32]) (fun v _ => cols - (intOf v).toNat)
   case atStart =>
    refine ⟨0, rfl, Nat.zero_le _, ?_⟩
    (refine Hp.arr H ?_; repeat (first | exact Pm.nil _ | (apply Pm.cons; · (repeat first | exact Rm.here _ | apply Rm.there))))
   case round =>
    clear H
    obtain ⟨j, rfl, hj, H⟩ := hrel
    by_cases hlt : j < cols
    ·have hhi : ((mixE S cols j).map iV)[j + 1]? = some (.int .i64 (cntE S j : Int)) := by rw [List.getElem?_map, mixE_hi hlt]; rfl
     have hlo : ((mixE S cols j).map iV)[j]? = some (.int .i64 (pre S j : Int)) := by rw [List.getElem?_map, mixE_lo]; rfl
     have hcn : cntE S j ≤ 20 := by have := cntE_le S j; rw [HN.out] at this; omega
     have hpn : pre S j ≤ 20 := by have := pre_le S j; rw [HN.out] at this; omega
     have hsl : j + 1 < ((mixE S cols j).map iV).length := by rw [List.length_map, mixE_len (by omega)]; omega
     have HC1 := hid (show (j : Int) + 1 = ((j + 1 : Nat) : Int) by omega)
     go_wp2_with (refine x_q H ?_)
     (revert H; refine w_p 13 (.st 0 (.st 1 (.st 2 (.st 3 (.st 4 (.st 5 (.st 6 (.st 7 (.st 8 (.st 9 (.st 10 (.st 11 (.st 12 (.ld 13 .done)))))))))))))) ?_; intro w1 H)
     iterate 4 refine p_q ?_
     (refine p_e rfl (fun w H => ev_ixE (j + 1) (j + 1) rfl rfl rfl HC1) ?_)
     iterate 7 refine p_q ?_
     (refine p_e rfl (fun w H => ev_ixE (j + 1) (j + 1) rfl rfl rfl HC1) ?_)
     (revert H; refine p_s ?_; intro w1 hf H; (first | replace hf := hf.kp | clear hf))
     (refine pl_done ?_)
     go_wp2_with fail
     go_roundw
     case rel =>
      refine ⟨j + 1, rfl, by omega, ?_⟩
      have e1 : ((mixE S cols j).map iV).set (j + 1) (.int .i64 ((cntE S j : Int) + (pre S j : Int))) = (mixE S cols (j + 1)).map iV := set_iV (mixE_next hlt)
      rw [← e1]
      (refine Hp.arr H ?_; repeat (first | exact Pm.nil _ | (apply Pm.cons; · (repeat first | exact Rm.here _ | apply Rm.there))))
     case measure => (simp [intOf]; try omega)
    ·have hje : j = cols := by omega
     rw [hje, mixE_end] at H
     clear hje
     go_wp2_with (first | refine x_q H ?_ | (revert H; refine x_sF ?_; intro w1 hf H hk; clear hf hk; (first | replace hf := hf.kp | clear hf)))
     refine c_post H rfl rfl rfl ?_
     have H3 : Hp [] w _ [.blk g1 (((List.range (cols + 1)).map (pre S)).map iV) 3, .obj 2 S2 (RowAt 3 1 (.slice p2 k c2) k (S.map fun x => iV x.1) S2), .obj 3 S3 (RowAt 25 1 (.slice p3 k c3) k (S.map fun x => uV x.2.2) S3)] := H.arr (by repeat (first | exact Pm.nil _ | (apply Pm.cons; · (repeat first | exact Rm.here _ | apply Rm.there))))
     refine ⟨_, _, _, [g1] ++ (S2 ++ S3), rfl, H.fr, mat_mk (by simpa [Ent.own] using H3.nodup) ⟨by simp, .inr ⟨g1, cols + 1, [], rfl, rfl, Nat.le_refl _, by unfold maxLen; omega, by simp, by simpa using H3.at g1⟩⟩ (H3.rowo 2) (H3.rowo 3) rfl (by rw [List.map_map]; rfl) (by rw [List.map_map]; rfl) (by simp) (by simp [HN.out]) (by simp [HN.out]), ?_⟩
     intro x hx
     exact H3.fresh x (by simpa [Ent.own] using hx)
end Go.Proofs.YtbiohhmpclnpgaaGreatDoor
