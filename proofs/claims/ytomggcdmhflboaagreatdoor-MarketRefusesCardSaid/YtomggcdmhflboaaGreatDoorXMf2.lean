import Derived.Test.YtomggcdmhflboaaGreatDoorXMd8
import Derived.Test.YtomggcdmhflboaaGreatDoorXMf1
import Derived.Test.YtomggcdmhflboaaGreatDoorXMb3
import Derived.Test.YtomggcdmhflboaaGreatDoorXMb4
import Derived.Test.YtomggcdmhflboaaGreatDoorXMb5f
import Derived.Test.YtomggcdmhflboaaGreatDoorXMb5t
import Derived.Test.YtomggcdmhflboaaGreatDoorXMc6
import Derived.Test.YtomggcdmhflboaaGreatDoorXMd2
import Derived.Test.YtomggcdmhflboaaGreatDoorXMg0
import Derived.Test.YtomggcdmhflboaaGreatDoorXSx
namespace Go.Proofs.YtomggcdmhflboaaGreatDoor
open Go.RowKit
set_option linter.unusedSimpArgs false
set_option linter.unusedVariables false
set_option maxHeartbeats 8000000
set_option maxRecDepth 100000
attribute [local irreducible] wpList Code.wp Plan.wp stsE mixE pre cntE
section
variable {P : Program} {Q : Exit → Act → World → Prop} {a : Act} {w w0 : World} {o : Oper} {K : Act → World → Prop} {T : List Nat} {l : List Ent}
theorem c_st5 (H : Hp T w0 w l) {t : TypeId} {x y : Operand} (ho : o.op = .store t x y) {b : Nat} (hx : a.eval x = .pointer (some ⟨b, 0, none⟩)) {v0 v1 v2 v3 v4 : Value} (hy : a.eval y = .agg #[v0, v1, v2, v3, v4]) [hs : Ro P t 5] {a0 a1 a2 a3 a4 a5 a6 a7 : Value} {t' : TypeId} {f : Nat → List Value → List Ent} [hm : In b [a0, a1, a2, a3, a4, a5, a6, a7] t' l f]
  (h1 : v0.oneCell' = true ∧ v1.oneCell' = true ∧ v2.oneCell' = true ∧ v3.oneCell' = true ∧ v4.oneCell' = true := by exact ⟨rfl, rfl, rfl, rfl, rfl⟩)
  (h : ∀ w', Fr [b] w w' → Hp T w0 w' (f b [v0, v1, v2, v3, v4, a5, a6, a7]) → K (a.put o.dst undef) w') : o.wp P a w K Q :=
 c_stn H ho hx (vs := [v0, v1, v2, v3, v4]) hy rfl (by
  intro v hv
  simp only [List.mem_cons, List.not_mem_nil, or_false] at hv
  rcases hv with rfl | rfl | rfl | rfl | rfl
  ·exact h1.1
  ·exact h1.2.1
  ·exact h1.2.2.1
  ·exact h1.2.2.2.1
  ·exact h1.2.2.2.2) (by simp) (fun w' hf H1 => h w' hf H1)
theorem c_st8 (H : Hp T w0 w l) {t : TypeId} {x y : Operand} (ho : o.op = .store t x y) {b : Nat} (hx : a.eval x = .pointer (some ⟨b, 0, none⟩)) {v0 v1 v2 v3 v4 v5 v6 v7 : Value} (hy : a.eval y = .agg #[v0, v1, v2, v3, v4, v5, v6, v7]) [hs : Ro P t 8] {a0 a1 a2 a3 a4 a5 a6 a7 : Value} {t' : TypeId} {f : Nat → List Value → List Ent} [hm : In b [a0, a1, a2, a3, a4, a5, a6, a7] t' l f]
  (h1 : v0.oneCell' = true ∧ v1.oneCell' = true ∧ v2.oneCell' = true ∧ v3.oneCell' = true ∧ v4.oneCell' = true ∧ v5.oneCell' = true ∧ v6.oneCell' = true ∧ v7.oneCell' = true := by exact ⟨rfl, rfl, rfl, rfl, rfl, rfl, rfl, rfl⟩)
  (h : ∀ w', Fr [b] w w' → Hp T w0 w' (f b [v0, v1, v2, v3, v4, v5, v6, v7]) → K (a.put o.dst undef) w') : o.wp P a w K Q :=
 c_stW H ho hx (vs := [v0, v1, v2, v3, v4, v5, v6, v7]) hy (cs := [a0, a1, a2, a3, a4, a5, a6, a7]) rfl rfl (by
  intro v hv
  simp only [List.mem_cons, List.not_mem_nil, or_false] at hv
  rcases hv with rfl | rfl | rfl | rfl | rfl | rfl | rfl | rfl
  ·exact h1.1
  ·exact h1.2.1
  ·exact h1.2.2.1
  ·exact h1.2.2.2.1
  ·exact h1.2.2.2.2.1
  ·exact h1.2.2.2.2.2.1
  ·exact h1.2.2.2.2.2.2.1
  ·exact h1.2.2.2.2.2.2.2) h
end
def endP (hd : Hd) (m n : Nat) (L : List En) : List (Nat × List (List UInt8)) → Except (Nat × Nat) (Hd × Nat × Nat × List En)
 | [] => .ok (hd, m, n, L)
 | (k, _) :: _ => .error (k, 103)
theorem Hp.lose {w0 w w' : World} {k : Nat} {S : List Nat} {Q : World → Prop} {l : List Ent} (H : Hp [] w0 w (.obj k S Q :: l)) (hF : Fr S w w') : Hp [] w0 w' l := by
 refine (H.sub (.cons _ (List.Sublist.refl _))).skip hF (fun x hx => ((H.ok _ (.head _)).2.2 x hx).resolve_left (by simp)) (fun x hx h => ?_)
 have hn := H.nodup
 rw [List.flatMap_cons] at hn
 exact (List.nodup_append.1 hn).2.2 x hx x h rfl
theorem Hp.matC {w0 w w' : World} {k : Nat} {S : List Nat} {Q : World → Prop} {l : List Ent} (H : Hp [] w0 w (.obj k S Q :: l)) (k1 k2 k3 : Nat) {st ix vl : List Nat} {v1 v2 v3 : Value} {B : List Nat} (hF : Fr S w w') (h : Mat3 st ix vl v1 v2 v3 B w') (hB : ∀ x ∈ B, w.heap.size ≤ x) :
  ∃ S1 S2 S3, B = S1 ++ (S2 ++ S3) ∧ Hp [] w0 w' (.obj k1 S1 (RowAt 3 1 v1 st.length (st.map iV) S1) :: .obj k2 S2 (RowAt 3 1 v2 ix.length (ix.map iV) S2) :: .obj k3 S3 (RowAt 45 1 v3 vl.length (vl.map uV) S3) :: l) := by
 obtain ⟨S1, S2, S3, rfl, hn, h1, h2, h3⟩ := h
 simp only [List.nodup_append, List.mem_append] at hn
 have k0 := H.lose hF
 have hlt := H.ownLt
 have nw : ∀ x, w.heap.size ≤ x → x ∉ l.flatMap Ent.own := fun x hx hm => by
  have := hlt x (by rw [List.flatMap_cons]; exact List.mem_append_right _ hm)
  omega
 have nb : ∀ x, w.heap.size ≤ x → x ∈ ([] : List Nat) ∨ w0.heap.size ≤ x := fun x hx => .inr (Nat.le_trans H.fr.size hx)
 have q3 := k0.pushObj k3 h3 RowAt.firm (fun x hx => nb x (hB x (by simp [hx]))) (fun x hx => nw x (hB x (by simp [hx])))
 have q2 := q3.pushObj k2 h2 RowAt.firm (fun x hx => nb x (hB x (by simp [hx]))) (fun x hx => by
  rw [List.flatMap_cons, List.mem_append, not_or]
  exact ⟨fun h => hn.2.1.2.2 x hx x h rfl, nw x (hB x (by simp [hx]))⟩)
 have q1 := q2.pushObj k1 h1 RowAt.firm (fun x hx => nb x (hB x (by simp [hx]))) (fun x hx => by
  rw [List.flatMap_cons, List.flatMap_cons, List.mem_append, List.mem_append, not_or, not_or]
  exact ⟨fun h => hn.2.2 x hx x (.inl h) rfl, fun h => hn.2.2 x hx x (.inr h) rfl, nw x (hB x (by simp [hx]))⟩)
 exact ⟨S1, S2, S3, rfl, q1⟩
theorem Hp.updRow {w0 w w' : World} {k : Nat} {S : List Nat} {Q Q' : World → Prop} {l : List Ent} (H : Hp [] w0 w (.obj k S Q :: l)) (k2 : Nat) (hF : Fr S w w') (hq : Q' w') (hf : Firm S Q') {e : TypeId} {sz n : Nat} {v : Value} {xs : List Value} (h : w'.ownsRow w.heap.size e sz v n xs) :
  ∃ S2, Hp [] w0 w' (.obj k2 S2 (RowAt e sz v n xs S2) :: .obj k S Q' :: l) := by
 obtain ⟨S2, h1, h2⟩ := RowAt.of_owns h
 have hlt := H.ownLt
 have H1 : Hp [] w0 w' (.obj k S Q' :: l) := H.upd' (.head _) hF hq hf (fun x hx => .inl hx)
 refine ⟨S2, H1.pushObj k2 h1 RowAt.firm (fun x hx => .inr (Nat.le_trans H.fr.size (h2 x hx))) (fun x hx hm => ?_)⟩
 have := hlt x (by simpa [Ent.own] using hm)
 have := h2 x hx
 omega
theorem RdrAt.cell0 {g b c : Nat} {Ls : List (List UInt8)} {i : Nat} {w : World} (h : RdrAt g b c Ls i w) : w.cell? ⟨g, 0, none⟩ = some (.slice (some ⟨b, 0, none⟩) Ls.length c) := by
 simp only [World.cell?, h.hg]; rfl
theorem bad_of {w0 w : World} {gf gl ge : Nat} {cf : List Value} (hcf : cf.length = 8) (H : Hp [] w0 w [.blk ge [.int .i64 0] 31, .blk gl [.int .i64 0] 3, .blk gf cf 30]) :
  Hp [gf, gl, ge] w w [.blk ge [.int .i64 0] 31, .blk gl [.int .i64 0] 3, .blk gf cf 30] ∧ ∀ w', Fr [gf, gl, ge] w w' → Fr [] w0 w' := by
 have hn := H.nodup
 simp only [List.flatMap_cons, List.flatMap_nil, Ent.own, List.append_nil, List.singleton_append, List.nodup_cons, List.mem_cons, List.not_mem_nil, or_false, not_or] at hn
 refine ⟨(((Hp.start [gf, gl, ge] w).push (H.at gf) (.inl (by simp)) (by simp)).push (H.at gl) (.inl (by simp)) (by simpa [Ent.own] using hn.2.1)).push (H.at ge) (.inl (by simp)) (by simpa [Ent.own] using hn.1), fun w' k => H.fr.andThen k fun x hx => ?_⟩
 refine .inr (H.fresh x ?_)
 simp only [List.mem_cons, List.not_mem_nil, or_false] at hx
 rcases hx with rfl | rfl | rfl <;> simp [Ent.own]
theorem leaves_nil {P : Program} {fn : Func} {tmps : Array Value} {R : Ending → World → Prop} {w : World} {v : Value} (h : (results fn tmps).run P w = .ok v w) (hR : R (.returned v) w) : Leaves P fn tmps R [] .returning w := ⟨v, h, hR⟩
theorem results_file {T : List Nat} {w0 w : World} {L : List Value} {g0 g1 g2 : Nat} {a0 a1 a2 a3 a4 a5 a6 a7 k x : Value} (h2 : L[2]? = some (.pointer (some ⟨g0, 0, none⟩))) (h3 : L[3]? = some (.pointer (some ⟨g1, 0, none⟩))) (h4 : L[4]? = some (.pointer (some ⟨g2, 0, none⟩)))
  (H : Hp T w0 w [.blk g2 [x] 31, .blk g1 [k] 3, .blk g0 [a0, a1, a2, a3, a4, a5, a6, a7] 30]) : (results Tryz.f7 L.toArray).run Tryz.prog w = .ok (.tuple #[.agg #[a0, a1, a2, a3, a4, a5, a6, a7], k, x]) w := by
 have c0 := H.cell (b := g0) (p := 0) (v := a0) rfl
 have c1 := H.cell (b := g0) (p := 1) (v := a1) rfl
 have c2 := H.cell (b := g0) (p := 2) (v := a2) rfl
 have c3 := H.cell (b := g0) (p := 3) (v := a3) rfl
 have c4 := H.cell (b := g0) (p := 4) (v := a4) rfl
 have c5 := H.cell (b := g0) (p := 5) (v := a5) rfl
 have c6 := H.cell (b := g0) (p := 6) (v := a6) rfl
 have c7 := H.cell (b := g0) (p := 7) (v := a7) rfl
 have d1 := H.cell (b := g1) (p := 0) (v := k) rfl
 have d2 := H.cell (b := g2) (p := 0) (v := x) rfl
 simp [results, Tryz.results7, go_sem, h2, h3, h4, c0, c1, c2, c3, c4, c5, c6, c7, d1, d2]
def PaPost (s : List UInt8) (w : World) (e : Ending) (w' : World) : Prop :=
 match mparse s with
 | .error (k, x) => e = .returned (.tuple #[.agg fileZ.toArray, .int .i64 (k : Int), .int .i64 (x : Int)])
 | .ok (h, m, n, L) => ∃ v1 v2 v3 B, e = .returned (.tuple #[.agg #[iV m, iV n, v1, v2, v3, .bool h.arr, .int .i64 (h.field : Int), .int .i64 (h.sym : Int)], .int .i64 0, .int .i64 0]) ∧
   Mat3 ((List.range (n + 1)).map (pre (entP (mirr h.sym L) m n))) ((entP (mirr h.sym L) m n).map (·.1)) ((entP (mirr h.sym L) m n).map (·.2.2)) v1 v2 v3 B w' ∧ ∀ x ∈ B, w.heap.size ≤ x
set_option maxHeartbeats 64000000 in
theorem parseM_any (w : World) (s : List UInt8) (hs : s.length ≤ 1048576) {p : Option Addr} {c : Nat} (hv : Rd w (.slice p s.length c) s.length (bytesV s)) (hT : La w) (hL : Lh w) (h20 : ∀ h m n L, mparse s = .ok (h, m, n, L) → (mirr h.sym L).length ≤ 20) :
  Calls Tryz.prog 7 #[.slice p s.length c] w fun e w' => Fr [] w w' ∧ PaPost s w e w' := by
 have HV := hid hv
 have HT := hid hT
 have HLh := hid hL
 have H20 := hid h20
 have hsz : 2 ≤ w.heap.size := lt_of_cell (hL.2 0 _ rfl)
 clear hv hT hL h20
 have H := Hp.start [] w
 have hmf : ∀ (fn : Fn) (first cap : Array Value) (w : World), (Instr.makeFunc fn first cap).run Tryz.prog w = .ok (.func fn first cap) w := fun _ _ _ _ => rfl
 go_enter_defers Tryz.func7, Tryz.ntmps7
 go_wp2_with (first | refine x_q H ?_ | (revert H; refine x_g ?_; (first | (have hh := g5; clear hh; intro g6 w1 hg hf H) | (have hh := g4; clear hh; intro g5 w1 hg hf H) | (have hh := g3; clear hh; intro g4 w1 hg hf H) | (have hh := g2; clear hh; intro g3 w1 hg hf H) | (have hh := g1; clear hh; intro g2 w1 hg hf H) | (have hh := g0; clear hh; intro g1 w1 hg hf H) | intro g0 w1 hg hf H)))
 refine Calls.mono (lines_any _ s (by omega) (HV.out.fr H.fr (by simp))) ?_
 rintro e w1 ⟨gL, rfl, hF, hgL, hgL2, hcells⟩
 have hnL := H.notOwn hgL
 have hnw := Nat.le_trans H.fr.size hgL
 have H1 := H.step hF (by simp)
 clear H hF hgL
 have H := H1
 clear H1
 obtain ⟨Ls, hLs⟩ : ∃ Ls, mlines s = Ls := ⟨_, rfl⟩
 rw [hLs] at hcells ⊢
 have hLn : Ls.length ≤ 2000000 := by rw [← hLs]; exact Nat.le_trans (lns_count _ _) (by omega)
 have hLl : ∀ x ∈ Ls, x.length ≤ 2000000 := by
  intro x hx
  rw [← hLs] at hx
  exact Nat.le_trans (lns_size _ _ x hx) (by rw [List.length_nil]; omega)
 have HLS := hid hLs
 have HCL := hid hcells
 have HLL := hid hLl
 clear hLs hcells hLl
 obtain ⟨cL, hcL⟩ : ∃ cL, (nl [] s).length = cL := ⟨_, rfl⟩
 rw [hcL]
 clear hcL
 go_upto_region 5 with (first | refine x_q H ?_ | refine x_cm (fun h => ?_) (fun h => ?_) | refine x_l H ?_ | (revert H; (first | (refine x_g ?_; (first | (have hh := g5; clear hh; intro g6 w1 hg hf H) | (have hh := g4; clear hh; intro g5 w1 hg hf H) | (have hh := g3; clear hh; intro g4 w1 hg hf H) | (have hh := g2; clear hh; intro g3 w1 hg hf H) | (have hh := g1; clear hh; intro g2 w1 hg hf H) | (have hh := g0; clear hh; intro g1 w1 hg hf H) | intro g0 w1 hg hf H)) | (refine x_s ?_; intro w1 hf H) | (refine x_sF ?_; intro w1 hf H hk; clear hf hk))))
 have hR : RdrAt g3 gL cL Ls 1 w1 := ⟨by simpa using H.at g3, by omega, Nat.lt_of_lt_of_le hgL2 hf.size, fun j x hx => hf.cell (HCL.out j x hx) (by simp), hLn, HLL.out⟩
 have hnd := H.nodup
 simp only [List.flatMap_cons, List.flatMap_nil, Ent.own, List.append_nil, List.singleton_append, List.nodup_cons] at hnd
 have H1 := (H.sub (.cons _ (List.Sublist.refl _))).pushObj 7 (Q := RdrAt g3 gL cL Ls 1) (S := [g3, gL]) hR RdrAt.firm (fun x hx => by
  simp only [List.mem_cons, List.not_mem_nil, or_false] at hx
  rcases hx with rfl | rfl
  ·exact .inr hg.1
  ·exact .inr hnw) (fun x hx => by
  simp only [List.mem_cons, List.not_mem_nil, or_false] at hx
  rcases hx with rfl | rfl
  ·simpa [Ent.own] using hnd.1
  ·exact hnL)
 clear H hR hnd HCL hgL2 hnL hnw
 have H := H1
 clear H1
 rcases Ls with _ | ⟨line, Ls⟩
 ·have HM : Hid (mparse s = .error (1, 100)) := hid (by unfold mparse; rw [HLS.out])
  go_wp2_with (first | refine x_e (c_ldc rfl rfl (H.ob 7).cell0) ?_ | refine x_q H ?_)
  refine x_c H (demand_bad _ _ _ _ (H.ob 7).cell) ?_
  clear H
  rintro e w1 ⟨rfl, hF⟩ H
  obtain ⟨H4, hfr⟩ := bad_of (gf := g0) (gl := g1) (ge := g2) (cf := fileZ) rfl (H.arr (by repeat (first | exact Pm.nil _ | (apply Pm.cons; · (repeat first | exact Rm.here _ | apply Rm.there)))))
  refine leaves_cons (f := 17) (args := #[.pointer (some ⟨g0, 0, none⟩), .pointer (some ⟨g1, 0, none⟩), .pointer (some ⟨g2, 0, none⟩)]) (by simp) (by simp [go_sem]) ?_
  refine (catch_bad g0 g1 g2 _ _ _ rfl H4).mono ?_
  rintro e u' w2 ⟨rfl, rfl, hH⟩
  refine leaves_nil (results_file rfl rfl rfl hH) ⟨hfr _ hH.fr, ?_⟩
  unfold PaPost
  rw [HM.out]
  rfl
 ·obtain ⟨o, ho⟩ : ∃ o, hdr line = o := ⟨_, rfl⟩
  have HO := hid ho
  have hll : line.length ≤ 2000000 := HLL.out line (by simp)
  have hx0 : (line :: Ls)[0]? = some line := rfl
  clear ho
  go_wp2_with (first | refine x_e (c_ldc rfl rfl (H.ob 7).cell0) ?_ | refine x_e (c_ldc rfl rfl ((H.ob 7).hc 0 _ hx0)) ?_ | refine x_q H ?_)
  refine Calls.mono (header_any line hll (H.at g0) (HLh.out.fr H.fr (by simp) (by simp)) (by omega) HO) ?_
  rintro e w1 ⟨hF, hpost⟩
  cases o with
  | none =>
   obtain ⟨rfl, cf, hcf, hgf⟩ := hpost
   have H1 := H.write (b := g0) (cs1 := cf) (.tail _ (.tail _ (.tail _ (.head _)))) hF hgf
   clear H hF hgf
   have H := H1
   clear H1
   have HM : Hid (mparse s = .error (1, 100)) := hid (by unfold mparse; rw [HLS.out]; simp only [HO.out])
   go_wp2_with fail
   refine x_c H (demand_bad _ _ _ _ (H.ob 7).cell) ?_
   clear H
   rintro e w1 ⟨rfl, hF⟩ H
   obtain ⟨H4, hfr⟩ := bad_of (gf := g0) (gl := g1) (ge := g2) (cf := cf) hcf (H.arr (by repeat (first | exact Pm.nil _ | (apply Pm.cons; · (repeat first | exact Rm.here _ | apply Rm.there)))))
   refine leaves_cons (f := 17) (args := #[.pointer (some ⟨g0, 0, none⟩), .pointer (some ⟨g1, 0, none⟩), .pointer (some ⟨g2, 0, none⟩)]) (by simp) (by simp [go_sem]) ?_
   refine (catch_bad g0 g1 g2 _ _ _ hcf H4).mono ?_
   rintro e u' w2 ⟨rfl, rfl, hH⟩
   refine leaves_nil (results_file rfl rfl rfl hH) ⟨hfr _ hH.fr, ?_⟩
   unfold PaPost
   rw [HM.out]
   rfl
  | some hd =>
   obtain ⟨rfl, hgf⟩ := hpost
   have H1 := H.write (b := g0) (cs1 := fileC hd) (.tail _ (.tail _ (.tail _ (.head _)))) hF hgf
   clear H hF hgf hx0
   have H := H1
   clear H1
   obtain ⟨arr, field, sym⟩ := hd
   obtain ⟨hf2, hs2⟩ := hdr_le HO.out
   simp only at hf2 hs2
   have HMP := hid (mparse_eq HLS.out HO.out)
   simp only [fileC] at H
   cases arr
   ·go_wp2_with fail
    (refine x_c H (demand_ok _ _ _) ?_; clear H; rintro e w1 ⟨rfl, hF⟩ H; clear hF)
    obtain ⟨osz, hosz⟩ : ∃ o, szP (line :: Ls) 1 ⟨false, field, sym⟩ = o := ⟨_, rfl⟩
    have HSZ := hid hosz
    clear hosz
    go_wp2_with (refine x_q H ?_)
    refine Calls.mono (sizes_f (H.ob 7) (by simp) field sym hs2 HSZ) ?_
    rintro e w1 ⟨hF, hpost⟩
    cases osz with
    | error er =>
     obtain ⟨k, x⟩ := er
     have he : e = .panicked (failV k x) := hpost
     subst he
     have HM : Hid (mparse s = .error (k, x)) := hid (by rw [HMP.out, HSZ.out])
     have H1 := H.lose hF
     clear H hF hpost
     have H := H1
     clear H1
     obtain ⟨H4, hfr⟩ := bad_of (gf := g0) (gl := g1) (ge := g2) (cf := [.int .i64 0, .int .i64 0, .slice none 0 0, .slice none 0 0, .slice none 0 0, .bool false, .int .i64 (field : Int), .int .i64 (sym : Int)]) rfl (H.arr (by repeat (first | exact Pm.nil _ | (apply Pm.cons; · (repeat first | exact Rm.here _ | apply Rm.there)))))
     refine leaves_cons (f := 17) (args := #[.pointer (some ⟨g0, 0, none⟩), .pointer (some ⟨g1, 0, none⟩), .pointer (some ⟨g2, 0, none⟩)]) (by simp) (by simp [go_sem]) ?_
     refine (catch_bad g0 g1 g2 _ _ _ rfl H4).mono ?_
     rintro e u' w2 ⟨rfl, rfl, hH⟩
     refine leaves_nil (results_file rfl rfl rfl hH) ⟨hfr _ hH.fr, ?_⟩
     unfold PaPost
     rw [HM.out]
     rfl
    | ok q =>
     obtain ⟨k, m, n, z⟩ := q
     obtain ⟨he, hR⟩ := hpost
     subst he
     obtain ⟨hk1, hm, hn, hz, hmn, hzs⟩ := szP_ok HSZ.out
     have HALL := hid (fun (L : List En) (r : List (Nat × List (List UInt8))) (e : ents ⟨false, field, sym⟩ m n ((line :: Ls).length + 1) z [] (sig k ((line :: Ls).drop k)) = .ok (L, r)) => ents_all (hd := ⟨false, field, sym⟩) hs2 hmn hzs e)
     skip
     have H1 := H.upd (w' := w1) 7 hF (S' := [g3, gL]) hR (by simp)
     clear H hF hR hmn hzs
     have H := H1
     clear H1
     obtain ⟨oe, hoe⟩ : ∃ o, ents ⟨false, field, sym⟩ m n ((line :: Ls).length + 1) z [] (sig k ((line :: Ls).drop k)) = o := ⟨_, rfl⟩
     have HE := hid hoe
     clear hoe
     have HM0 := hid (show mparse s = match ents ⟨false, field, sym⟩ m n (Ls.length + 2) z [] (sig k ((line :: Ls).drop k)) with
       | .error e => .error e
       | .ok (L, []) => .ok (⟨false, field, sym⟩, m, n, L)
       | .ok (_, (k, _) :: _) => .error (k, 103) by rw [HMP.out, HSZ.out]; rfl)
     go_wp2_with (refine x_q H ?_)
     refine Calls.mono (entries_f (H.ob 7) hk1 field sym m n z hs2 hf2 hm hn hz (H.old 7 (fun w' k => HT.out.fr k)) HE) ?_
     rintro e w1 ⟨hF, hpost⟩
     cases oe with
     | error er =>
      obtain ⟨k2, x⟩ := er
      have he : e = .panicked (failV k2 x) := hpost
      subst he
      have HM : Hid (mparse s = .error (k2, x)) := hid (by rw [HM0.out]; have h := HE.out; simp only [List.length_cons] at h; rw [h])
      have H1 := H.lose hF
      clear H hF hpost
      have H := H1
      clear H1
      obtain ⟨H4, hfr⟩ := bad_of (gf := g0) (gl := g1) (ge := g2) (cf := [.int .i64 0, .int .i64 0, .slice none 0 0, .slice none 0 0, .slice none 0 0, .bool false, .int .i64 (field : Int), .int .i64 (sym : Int)]) rfl (H.arr (by repeat (first | exact Pm.nil _ | (apply Pm.cons; · (repeat first | exact Rm.here _ | apply Rm.there)))))
      refine leaves_cons (f := 17) (args := #[.pointer (some ⟨g0, 0, none⟩), .pointer (some ⟨g1, 0, none⟩), .pointer (some ⟨g2, 0, none⟩)]) (by simp) (by simp [go_sem]) ?_
      refine (catch_bad g0 g1 g2 _ _ _ rfl H4).mono ?_
      rintro e u' w2 ⟨rfl, rfl, hH⟩
      refine leaves_nil (results_file rfl rfl rfl hH) ⟨hfr _ hH.fr, ?_⟩
      unfold PaPost
      rw [HM.out]
      rfl
     | ok q =>
      obtain ⟨L, rest⟩ := q
      obtain ⟨v, k2, he, hown, hR, hrest, hk2, hv64⟩ := hpost
      subst he
      obtain ⟨S0, H1⟩ := H.updRow 0 hF hR RdrAt.firm hown
      clear H hF hR hown
      have H := H1
      clear H1
      have HRS := hid hrest
      clear hrest hv64
      have HM1 := hid (show mparse s = endP ⟨false, field, sym⟩ m n L rest by
       rw [HM0.out]
       have h := HE.out
       simp only [List.length_cons] at h
       rw [h]
       cases rest with
       | nil => rfl
       | cons a r => rfl)
      have hall := HALL.out L rest HE.out
      (try simp only at hall)
      have HOKM := hid hall.1
      have HFIN := hid hall.2
      clear hall
      go_wp2_with fail
      have hR0 := H.ob 7
      refine Calls.mono (line_any hR0 hk2) ?_
      rintro e w1 ⟨v8, i', rfl, hF0, hR1, hcase⟩
      have H1 := H.upd (w' := w1) 7 (hF0.mono (S := [g3, gL]) (by simp)) (S' := [g3, gL]) hR1 (by simp)
      clear H hR0 hF0 hR1
      have H := H1
      clear H1
      rcases hcase with ⟨hsg, rfl, rfl⟩ | ⟨ws, r, q, hsg, rfl, hq, hc⟩
      ·have HM : Hid (mparse s = .ok (⟨false, field, sym⟩, m, n, L)) := hid (by rw [HM1.out, HRS.out, hsg]; rfl)
       clear hsg
       go_wp2_with (refine x_q H ?_)
       (refine x_c H (demand_ok _ _ _) ?_; clear H; rintro e w1 ⟨rfl, hF⟩ H; clear hF)
       go_wp2_with (refine x_q H ?_)
       have h20 := H20.out _ _ _ _ HM.out
       (try simp only at h20)
       refine Calls.mono (mirrored_any _ m n sym hm hn hs2 L (H.rowo 0) h20 HOKM.out HFIN.out (H.old 0 (fun w' k => HT.out.fr k))) ?_
       rintro e w1 ⟨v1, v2, v3, B, rfl, hF, hM3, hB⟩
       have hBf := hid (fun x (hx : x ∈ B) => Nat.le_trans H.fr.size (hB x hx))
       obtain ⟨S1, S2, S3, hBe, H1⟩ := H.matC 1 2 3 hF hM3 hB
       clear H hF hM3 hB h20
       have H := H1
       clear H1
       subst hBe
       simp only [packM, List.length_map, List.length_range] at H
       obtain ⟨q1, d1, rfl, _⟩ := (H.rowo 1).form
       obtain ⟨q2, d2, rfl, _⟩ := (H.rowo 2).form
       obtain ⟨q3, d3, rfl, _⟩ := (H.rowo 3).form
       go_wp2_with (first | (revert H; refine x_s (he := fun H K hK => c_st5 H rfl rfl rfl (h := hK)) ?_; intro w1 hf H) | (revert H; refine x_s (he := fun H K hK => c_st8 H rfl rfl rfl (h := hK)) ?_; intro w1 hf H) | refine x_q H ?_ | (revert H; refine x_s ?_; intro w1 hf H))
       refine leaves_cons (f := 17) (args := #[.pointer (some ⟨g0, 0, none⟩), .pointer (some ⟨g1, 0, none⟩), .pointer (some ⟨g2, 0, none⟩)]) (by simp) (by simp [go_sem]) ?_
       refine (catch_idle g0 g1 g2 _).mono ?_
       rintro e u' w2 ⟨rfl, rfl, rfl⟩
       have H3 : Hp [] w w2 [.blk g2 [.int .i64 0] 31, .blk g1 [.int .i64 0] 3, .blk g0 [iV m, iV n, .slice q1 (n + 1) d1, .slice q2 (entP (mirr sym L) m n).length d2, .slice q3 (entP (mirr sym L) m n).length d3, .bool false, .int .i64 (field : Int), .int .i64 (sym : Int)] 30] := H.arr (by repeat (first | exact Pm.nil _ | (apply Pm.cons; · (repeat first | exact Rm.here _ | apply Rm.there))))
       have H4 : Hp [] w w2 [.obj 1 S1 (RowAt 3 1 (.slice q1 (n + 1) d1) (n + 1) (((List.range (n + 1)).map (pre (entP (mirr sym L) m n))).map iV) S1), .obj 2 S2 (RowAt 3 1 (.slice q2 (entP (mirr sym L) m n).length d2) (entP (mirr sym L) m n).length (((entP (mirr sym L) m n).map (·.1)).map iV) S2), .obj 3 S3 (RowAt 45 1 (.slice q3 (entP (mirr sym L) m n).length d3) (entP (mirr sym L) m n).length (((entP (mirr sym L) m n).map (·.2.2)).map uV) S3)] := H.arr (by repeat (first | exact Pm.nil _ | (apply Pm.cons; · (repeat first | exact Rm.here _ | apply Rm.there))))
       refine leaves_nil (results_file rfl rfl rfl H3) ⟨H.fr, ?_⟩
       unfold PaPost
       rw [HM.out]
       exact ⟨_, _, _, S1 ++ (S2 ++ S3), rfl, mat_mk (by simpa [Ent.own] using H4.nodup) (H4.rowo 1) (H4.rowo 2) (H4.rowo 3) rfl rfl rfl (by simp) (by simp) (by simp), hBf.out⟩
      ·have HM : Hid (mparse s = .error (i', 103)) := hid (by rw [HM1.out, HRS.out, hsg]; rfl)
       clear hsg hq hc
       go_wp2_with (refine x_q H ?_)
       (refine x_c H (demand_bad _ _ _ _ (H.ob 7).cell) ?_; clear H; rintro e w1 ⟨rfl, hF⟩ H)
       obtain ⟨H4, hfr⟩ := bad_of (gf := g0) (gl := g1) (ge := g2) (cf := [.int .i64 0, .int .i64 0, .slice none 0 0, .slice none 0 0, .slice none 0 0, .bool false, .int .i64 (field : Int), .int .i64 (sym : Int)]) rfl (H.arr (by repeat (first | exact Pm.nil _ | (apply Pm.cons; · (repeat first | exact Rm.here _ | apply Rm.there)))))
       refine leaves_cons (f := 17) (args := #[.pointer (some ⟨g0, 0, none⟩), .pointer (some ⟨g1, 0, none⟩), .pointer (some ⟨g2, 0, none⟩)]) (by simp) (by simp [go_sem]) ?_
       refine (catch_bad g0 g1 g2 _ _ _ rfl H4).mono ?_
       rintro e u' w2 ⟨rfl, rfl, hH⟩
       refine leaves_nil (results_file rfl rfl rfl hH) ⟨hfr _ hH.fr, ?_⟩
       unfold PaPost
       rw [HM.out]
       rfl
   ·go_wp2_with fail
    (refine x_c H (demand_ok _ _ _) ?_; clear H; rintro e w1 ⟨rfl, hF⟩ H; clear hF)
    obtain ⟨osz, hosz⟩ : ∃ o, szP (line :: Ls) 1 ⟨true, field, sym⟩ = o := ⟨_, rfl⟩
    have HSZ := hid hosz
    clear hosz
    go_wp2_with (refine x_q H ?_)
    refine Calls.mono (sizes_t (H.ob 7) (by simp) field sym hs2 HSZ) ?_
    rintro e w1 ⟨hF, hpost⟩
    cases osz with
    | error er =>
     obtain ⟨k, x⟩ := er
     have he : e = .panicked (failV k x) := hpost
     subst he
     have HM : Hid (mparse s = .error (k, x)) := hid (by rw [HMP.out, HSZ.out])
     have H1 := H.lose hF
     clear H hF hpost
     have H := H1
     clear H1
     obtain ⟨H4, hfr⟩ := bad_of (gf := g0) (gl := g1) (ge := g2) (cf := [.int .i64 0, .int .i64 0, .slice none 0 0, .slice none 0 0, .slice none 0 0, .bool true, .int .i64 (field : Int), .int .i64 (sym : Int)]) rfl (H.arr (by repeat (first | exact Pm.nil _ | (apply Pm.cons; · (repeat first | exact Rm.here _ | apply Rm.there)))))
     refine leaves_cons (f := 17) (args := #[.pointer (some ⟨g0, 0, none⟩), .pointer (some ⟨g1, 0, none⟩), .pointer (some ⟨g2, 0, none⟩)]) (by simp) (by simp [go_sem]) ?_
     refine (catch_bad g0 g1 g2 _ _ _ rfl H4).mono ?_
     rintro e u' w2 ⟨rfl, rfl, hH⟩
     refine leaves_nil (results_file rfl rfl rfl hH) ⟨hfr _ hH.fr, ?_⟩
     unfold PaPost
     rw [HM.out]
     rfl
    | ok q =>
     obtain ⟨k, m, n, z⟩ := q
     obtain ⟨he, hR⟩ := hpost
     subst he
     obtain ⟨hk1, hm, hn, hz, hmn, hzs⟩ := szP_ok HSZ.out
     have HALL := hid (fun (L : List En) (r : List (Nat × List (List UInt8))) (e : ents ⟨true, field, sym⟩ m n ((line :: Ls).length + 1) z [] (sig k ((line :: Ls).drop k)) = .ok (L, r)) => ents_all (hd := ⟨true, field, sym⟩) hs2 hmn hzs e)
     have hzP : z ≤ (posP sym m n).length := by rw [posP_stored _ _ _ hs2 hmn, hzs rfl]; exact Nat.le_refl _
     have H1 := H.upd (w' := w1) 7 hF (S' := [g3, gL]) hR (by simp)
     clear H hF hR hmn hzs
     have H := H1
     clear H1
     obtain ⟨oe, hoe⟩ : ∃ o, ents ⟨true, field, sym⟩ m n ((line :: Ls).length + 1) z [] (sig k ((line :: Ls).drop k)) = o := ⟨_, rfl⟩
     have HE := hid hoe
     clear hoe
     have HM0 := hid (show mparse s = match ents ⟨true, field, sym⟩ m n (Ls.length + 2) z [] (sig k ((line :: Ls).drop k)) with
       | .error e => .error e
       | .ok (L, []) => .ok (⟨true, field, sym⟩, m, n, L)
       | .ok (_, (k, _) :: _) => .error (k, 103) by rw [HMP.out, HSZ.out]; rfl)
     go_wp2_with (refine x_q H ?_)
     refine Calls.mono (entries_t (H.ob 7) hk1 field sym m n z hs2 hf2 hm hn hz hzP (H.old 7 (fun w' k => HT.out.fr k)) HE) ?_
     rintro e w1 ⟨hF, hpost⟩
     cases oe with
     | error er =>
      obtain ⟨k2, x⟩ := er
      have he : e = .panicked (failV k2 x) := hpost
      subst he
      have HM : Hid (mparse s = .error (k2, x)) := hid (by rw [HM0.out]; have h := HE.out; simp only [List.length_cons] at h; rw [h])
      have H1 := H.lose hF
      clear H hF hpost
      have H := H1
      clear H1
      obtain ⟨H4, hfr⟩ := bad_of (gf := g0) (gl := g1) (ge := g2) (cf := [.int .i64 0, .int .i64 0, .slice none 0 0, .slice none 0 0, .slice none 0 0, .bool true, .int .i64 (field : Int), .int .i64 (sym : Int)]) rfl (H.arr (by repeat (first | exact Pm.nil _ | (apply Pm.cons; · (repeat first | exact Rm.here _ | apply Rm.there)))))
      refine leaves_cons (f := 17) (args := #[.pointer (some ⟨g0, 0, none⟩), .pointer (some ⟨g1, 0, none⟩), .pointer (some ⟨g2, 0, none⟩)]) (by simp) (by simp [go_sem]) ?_
      refine (catch_bad g0 g1 g2 _ _ _ rfl H4).mono ?_
      rintro e u' w2 ⟨rfl, rfl, hH⟩
      refine leaves_nil (results_file rfl rfl rfl hH) ⟨hfr _ hH.fr, ?_⟩
      unfold PaPost
      rw [HM.out]
      rfl
     | ok q =>
      obtain ⟨L, rest⟩ := q
      obtain ⟨v, k2, he, hown, hR, hrest, hk2, hv64⟩ := hpost
      subst he
      obtain ⟨S0, H1⟩ := H.updRow 0 hF hR RdrAt.firm hown
      clear H hF hR hown
      have H := H1
      clear H1
      have HRS := hid hrest
      clear hrest hv64
      have HM1 := hid (show mparse s = endP ⟨true, field, sym⟩ m n L rest by
       rw [HM0.out]
       have h := HE.out
       simp only [List.length_cons] at h
       rw [h]
       cases rest with
       | nil => rfl
       | cons a r => rfl)
      have hall := HALL.out L rest HE.out
      (try simp only at hall)
      have HOKM := hid hall.1
      have HFIN := hid hall.2
      clear hall
      go_wp2_with fail
      have hR0 := H.ob 7
      refine Calls.mono (line_any hR0 hk2) ?_
      rintro e w1 ⟨v8, i', rfl, hF0, hR1, hcase⟩
      have H1 := H.upd (w' := w1) 7 (hF0.mono (S := [g3, gL]) (by simp)) (S' := [g3, gL]) hR1 (by simp)
      clear H hR0 hF0 hR1
      have H := H1
      clear H1
      rcases hcase with ⟨hsg, rfl, rfl⟩ | ⟨ws, r, q, hsg, rfl, hq, hc⟩
      ·have HM : Hid (mparse s = .ok (⟨true, field, sym⟩, m, n, L)) := hid (by rw [HM1.out, HRS.out, hsg]; rfl)
       clear hsg
       go_wp2_with (refine x_q H ?_)
       (refine x_c H (demand_ok _ _ _) ?_; clear H; rintro e w1 ⟨rfl, hF⟩ H; clear hF)
       go_wp2_with (refine x_q H ?_)
       have h20 := H20.out _ _ _ _ HM.out
       (try simp only at h20)
       refine Calls.mono (mirrored_any _ m n sym hm hn hs2 L (H.rowo 0) h20 HOKM.out HFIN.out (H.old 0 (fun w' k => HT.out.fr k))) ?_
       rintro e w1 ⟨v1, v2, v3, B, rfl, hF, hM3, hB⟩
       have hBf := hid (fun x (hx : x ∈ B) => Nat.le_trans H.fr.size (hB x hx))
       obtain ⟨S1, S2, S3, hBe, H1⟩ := H.matC 1 2 3 hF hM3 hB
       clear H hF hM3 hB h20
       have H := H1
       clear H1
       subst hBe
       simp only [packM, List.length_map, List.length_range] at H
       obtain ⟨q1, d1, rfl, _⟩ := (H.rowo 1).form
       obtain ⟨q2, d2, rfl, _⟩ := (H.rowo 2).form
       obtain ⟨q3, d3, rfl, _⟩ := (H.rowo 3).form
       go_wp2_with (first | (revert H; refine x_s (he := fun H K hK => c_st5 H rfl rfl rfl (h := hK)) ?_; intro w1 hf H) | (revert H; refine x_s (he := fun H K hK => c_st8 H rfl rfl rfl (h := hK)) ?_; intro w1 hf H) | refine x_q H ?_ | (revert H; refine x_s ?_; intro w1 hf H))
       refine leaves_cons (f := 17) (args := #[.pointer (some ⟨g0, 0, none⟩), .pointer (some ⟨g1, 0, none⟩), .pointer (some ⟨g2, 0, none⟩)]) (by simp) (by simp [go_sem]) ?_
       refine (catch_idle g0 g1 g2 _).mono ?_
       rintro e u' w2 ⟨rfl, rfl, rfl⟩
       have H3 : Hp [] w w2 [.blk g2 [.int .i64 0] 31, .blk g1 [.int .i64 0] 3, .blk g0 [iV m, iV n, .slice q1 (n + 1) d1, .slice q2 (entP (mirr sym L) m n).length d2, .slice q3 (entP (mirr sym L) m n).length d3, .bool true, .int .i64 (field : Int), .int .i64 (sym : Int)] 30] := H.arr (by repeat (first | exact Pm.nil _ | (apply Pm.cons; · (repeat first | exact Rm.here _ | apply Rm.there))))
       have H4 : Hp [] w w2 [.obj 1 S1 (RowAt 3 1 (.slice q1 (n + 1) d1) (n + 1) (((List.range (n + 1)).map (pre (entP (mirr sym L) m n))).map iV) S1), .obj 2 S2 (RowAt 3 1 (.slice q2 (entP (mirr sym L) m n).length d2) (entP (mirr sym L) m n).length (((entP (mirr sym L) m n).map (·.1)).map iV) S2), .obj 3 S3 (RowAt 45 1 (.slice q3 (entP (mirr sym L) m n).length d3) (entP (mirr sym L) m n).length (((entP (mirr sym L) m n).map (·.2.2)).map uV) S3)] := H.arr (by repeat (first | exact Pm.nil _ | (apply Pm.cons; · (repeat first | exact Rm.here _ | apply Rm.there))))
       refine leaves_nil (results_file rfl rfl rfl H3) ⟨H.fr, ?_⟩
       unfold PaPost
       rw [HM.out]
       exact ⟨_, _, _, S1 ++ (S2 ++ S3), rfl, mat_mk (by simpa [Ent.own] using H4.nodup) (H4.rowo 1) (H4.rowo 2) (H4.rowo 3) rfl rfl rfl (by simp) (by simp) (by simp), hBf.out⟩
      ·have HM : Hid (mparse s = .error (i', 103)) := hid (by rw [HM1.out, HRS.out, hsg]; rfl)
       clear hsg hq hc
       go_wp2_with (refine x_q H ?_)
       (refine x_c H (demand_bad _ _ _ _ (H.ob 7).cell) ?_; clear H; rintro e w1 ⟨rfl, hF⟩ H)
       obtain ⟨H4, hfr⟩ := bad_of (gf := g0) (gl := g1) (ge := g2) (cf := [.int .i64 0, .int .i64 0, .slice none 0 0, .slice none 0 0, .slice none 0 0, .bool true, .int .i64 (field : Int), .int .i64 (sym : Int)]) rfl (H.arr (by repeat (first | exact Pm.nil _ | (apply Pm.cons; · (repeat first | exact Rm.here _ | apply Rm.there)))))
       refine leaves_cons (f := 17) (args := #[.pointer (some ⟨g0, 0, none⟩), .pointer (some ⟨g1, 0, none⟩), .pointer (some ⟨g2, 0, none⟩)]) (by simp) (by simp [go_sem]) ?_
       refine (catch_bad g0 g1 g2 _ _ _ rfl H4).mono ?_
       rintro e u' w2 ⟨rfl, rfl, hH⟩
       refine leaves_nil (results_file rfl rfl rfl hH) ⟨hfr _ hH.fr, ?_⟩
       unfold PaPost
       rw [HM.out]
       rfl
end Go.Proofs.YtomggcdmhflboaaGreatDoor
