import Derived.Test.YtbiohhmpclnpgaaGreatDoorXMc8
import Derived.Test.YtbiohhmpclnpgaaGreatDoorXMd7
namespace Go.Proofs.YtbiohhmpclnpgaaGreatDoor
open Go.RowKit
set_option linter.unusedSimpArgs false
set_option linter.unusedVariables false
set_option maxHeartbeats 8000000
set_option maxRecDepth 100000
attribute [local irreducible] wpList Code.wp Plan.wp
def mirE (sym : Nat) (x : En) : List En := if sym = 0 ∨ x.1 = x.2.1 then [] else [(x.2.1, x.1, if sym = 2 then negF x.2.2 else x.2.2)]
theorem mirr_flat (sym : Nat) (L : List En) : mirr sym L = L ++ L.flatMap (mirE sym) := by
 unfold mirr
 congr 1
 induction L with
 | nil => rfl
 | cons x L ih =>
  rw [List.flatMap_cons, ← ih, List.filter_cons]
  unfold mirE
  by_cases h : sym = 0 ∨ x.1 = x.2.1
  ·rw [if_pos h]
   have hb : (!(sym == 0 || x.1 == x.2.1)) = false := by rcases h with h | h <;> simp [h]
   rw [hb]
   simp
  ·rw [if_neg h]
   have hb : (!(sym == 0 || x.1 == x.2.1)) = true := by
    rw [not_or] at h
    simp [h.1, h.2]
   rw [hb]
   simp
end Go.Proofs.YtbiohhmpclnpgaaGreatDoor
namespace Go.Proofs.YtbiohhmpclnpgaaGreatDoor
open Go.RowKit
set_option linter.unusedSimpArgs false
set_option linter.unusedVariables false
set_option maxHeartbeats 8000000
set_option maxRecDepth 100000
attribute [local irreducible] wpList Code.wp Plan.wp stsE mixE pre cntE
def MatT (T : List Nat) (rows cols : Nat) (st ix vl : List Nat) (w : World) (e : Ending) (w' : World) : Prop :=
 ∃ v1 v2 v3 B, e = .returned (.agg #[iV rows, iV cols, v1, v2, v3]) ∧ Fr T w w' ∧ Mat3 st ix vl v1 v2 v3 B w' ∧ ∀ x ∈ B, w.heap.size ≤ x
def packM (S : List En) (cols : Nat) : List Nat × List Nat × List Nat := ((List.range (cols + 1)).map (pre S), S.map (·.1), S.map (·.2.2))
theorem Hp.matB {T : List Nat} {w0 w w' : World} {l : List Ent} (H : Hp T w0 w l) (k1 k2 k3 : Nat) {st ix vl : List Nat} {v1 v2 v3 : Value} {B : List Nat} (hF : Fr [] w w') (h : Mat3 st ix vl v1 v2 v3 B w') (hB : ∀ x ∈ B, w.heap.size ≤ x) :
  ∃ S1 S2 S3, B = S1 ++ (S2 ++ S3) ∧ Hp T w0 w' (.obj k1 S1 (RowAt 3 1 v1 st.length (st.map iV) S1) :: .obj k2 S2 (RowAt 3 1 v2 ix.length (ix.map iV) S2) :: .obj k3 S3 (RowAt 25 1 v3 vl.length (vl.map uV) S3) :: l) := by
 obtain ⟨S1, S2, S3, rfl, hn, h1, h2, h3⟩ := h
 simp only [List.nodup_append, List.mem_append] at hn
 have k0 := H.step hF (by simp)
 have nw : ∀ x, w.heap.size ≤ x → x ∉ l.flatMap Ent.own := fun x hx => H.notOwn hx
 have nb : ∀ x, w.heap.size ≤ x → x ∈ T ∨ w0.heap.size ≤ x := fun x hx => .inr (Nat.le_trans H.fr.size hx)
 have q3 := k0.pushObj k3 h3 RowAt.firm (fun x hx => nb x (hB x (by simp [hx]))) (fun x hx => nw x (hB x (by simp [hx])))
 have q2 := q3.pushObj k2 h2 RowAt.firm (fun x hx => nb x (hB x (by simp [hx]))) (fun x hx => by
  rw [List.flatMap_cons, List.mem_append, not_or]
  exact ⟨fun h => hn.2.1.2.2 x hx x h rfl, nw x (hB x (by simp [hx]))⟩)
 have q1 := q2.pushObj k1 h1 RowAt.firm (fun x hx => nb x (hB x (by simp [hx]))) (fun x hx => by
  rw [List.flatMap_cons, List.flatMap_cons, List.mem_append, List.mem_append, not_or, not_or]
  exact ⟨fun h => hn.2.2 x hx x (.inl h) rfl, fun h => hn.2.2 x hx x (.inr h) rfl, nw x (hB x (by simp [hx]))⟩)
 exact ⟨S1, S2, S3, rfl, q1⟩
set_option maxHeartbeats 64000000 in
theorem mirrored_any (w : World) (rows cols sym : Nat) (hr2 : rows ≤ 200) (hc2 : cols ≤ 200) (hs2 : sym ≤ 2) {v : Value} {S : List Nat} (L : List En) (hv : RowAt 131 3 v L.length (L.flatMap eC) S w) (hE : (mirr sym L).length ≤ 20) (hok : okM rows cols (mirr sym L)) (hfin : ∀ x ∈ L, finF x.2.2 = true ∧ x.2.2 < 18446744073709551616) (hT : ∀ w', Fr S w w' → La w') :
  Calls Tryz.prog 32 #[.int .i64 (rows : Int), .int .i64 (cols : Int), v, .int .i64 (sym : Int)] w (MatT S rows cols (packM (entP (mirr sym L) rows cols) cols).1 (packM (entP (mirr sym L) rows cols) cols).2.1 (packM (entP (mirr sym L) rows cols) cols).2.2 w) := by
 have HT := hid hT
 have HOK := hid hok
 have HFI := hid hfin
 have hLl : L.length ≤ (mirr sym L).length := by unfold mirr; rw [List.length_append]; omega
 have HE := hid hE
 have hL20 : L.length ≤ 20 := by omega
 have hML := hid (mirr_flat sym L)
 have H := (Hp.start S w).pushObj 0 (Q := RowAt 131 3 v L.length (L.flatMap eC) S) (S := S) hv RowAt.firm (fun x hx => .inl hx) (by simp)
 obtain ⟨p0, c0, rfl, hc0, _⟩ := hv.form
 clear hT hok hv hE hfin hLl
 go_enter Tryz.func32, Tryz.ntmps32
 go_wp2_with (revert H; refine x_g ?_; (first | (have hh := g5; clear hh; intro g6 w1 hg hf H) | (have hh := g4; clear hh; intro g5 w1 hg hf H) | (have hh := g3; clear hh; intro g4 w1 hg hf H) | (have hh := g2; clear hh; intro g3 w1 hg hf H) | (have hh := g1; clear hh; intro g2 w1 hg hf H) | (have hh := g0; clear hh; intro g1 w1 hg hf H) | intro g0 w1 hg hf H); (first | replace hf := hf.kp | clear hf))
 refine Calls.mono (cloneE_any _ L (EntR.of (H.rowo 0)).rd (by omega)) ?_
 rintro e w1 ⟨vs, rfl, hF, hown⟩
 obtain ⟨Ss, H1⟩ := H.rowNew 1 hF hown
 clear H hF hown
 have H := H1
 clear H1
 obtain ⟨p1, c1, rfl, _⟩ := (H.rowo 1).form
 go_wp2_with fail
 go_loopw [2, 15] (fun s2 s15 wr => ∃ (k : Nat) (M : List En) (p : Option Addr) (c : Nat) (S0 : List Nat), s2 = .slice p M.length c ∧ s15 = .int .i64 (k : Int) ∧ k ≤ L.length ∧ M.length ≤ L.length + k ∧ Hid (M = L ++ (L.take k).flatMap (mirE sym)) ∧ Hp S w wr [.obj 0 S0 (RowAt 131 3 (.slice p M.length c) M.length (M.flatMap eC) S0), .obj 1 Ss (RowAt 131 3 (.slice p1 L.length c1) L.length (L.flatMap eC) Ss), .blk g0 [.int .i64 0, .int .i64 0, .slice none 0 0, .slice none 0 0, .slice none 0 0] 32]) (fun _ v _ => L.length - (intOf v).toNat)
 case atStart => exact ⟨0, L, p0, c0, S, rfl, rfl, Nat.zero_le _, by omega, hid (by simp), H.arr (by repeat (first | exact Pm.nil _ | (apply Pm.cons; · (repeat first | exact Rm.here _ | apply Rm.there))))⟩
 case round =>
  clear H
  obtain ⟨k, M, p, c, S0, rfl, rfl, hk, hM, HM, H⟩ := hrel
  by_cases hlt : k < L.length
  ·obtain ⟨⟨xr, xc, xv⟩, hx⟩ : ∃ x, L[k]? = some x := ⟨_, List.getElem?_eq_getElem hlt⟩
   have hxf := HFI.out _ (List.mem_of_getElem? hx)
   simp only at hxf
   have hv64 := hxf.2
   have HK3 := kind_fin hxf.1
   have hpre : [.int .i64 (xr : Int), .int .i64 (xc : Int), .int .u64 (xv : Int)] <+: (L.flatMap eC).drop (k * 3) := pre_of hx
   have HT1 := hid (tk_snoc hx)
   obtain ⟨gs, cs, hvs, rfl⟩ := (H.rowo 1).some (by omega)
   cases hvs
   clear hx hxf
   by_cases h0 : sym = 0 ∨ xr = xc
   ·have HM2 := hid (show M = L ++ (L.take (k + 1)).flatMap (mirE sym) by
     rw [HM.out, HT1.out, List.flatMap_append]
     have : mirE sym (xr, xc, xv) = [] := by unfold mirE; rw [if_pos h0]
     simp [this])
    by_cases hs0 : sym = 0
    ·subst hs0
     clear h0
     go_wp2_with (first | refine x_e (c_lnO rfl rfl (H.rowo 1) hpre rfl) ?_ | refine x_q H ?_ | (revert H; refine x_g ?_; (first | (have hh := g5; clear hh; intro g6 w1 hg hf H) | (have hh := g4; clear hh; intro g5 w1 hg hf H) | (have hh := g3; clear hh; intro g4 w1 hg hf H) | (have hh := g2; clear hh; intro g3 w1 hg hf H) | (have hh := g1; clear hh; intro g2 w1 hg hf H) | (have hh := g0; clear hh; intro g1 w1 hg hf H) | intro g0 w1 hg hf H); (first | replace hf := hf.kp | clear hf)) | (revert H; refine x_sF ?_; intro w1 hf H hk; clear hf hk))
     go_roundw
     case rel => exact ⟨k + 1, M, p, c, S0, rfl, rfl, by omega, by omega, HM2, H.arr (by repeat (first | exact Pm.nil _ | (apply Pm.cons; · (repeat first | exact Rm.here _ | apply Rm.there))))⟩
     case measure => (simp [intOf]; try omega)
    ·obtain rfl : xr = xc := h0.resolve_left hs0
     have hs0' : ¬ (sym : Int) = 0 := by omega
     clear h0
     go_wp2_with (first | refine x_e (c_lnO rfl rfl (H.rowo 1) hpre rfl) ?_ | refine x_q H ?_ | (revert H; refine x_g ?_; (first | (have hh := g5; clear hh; intro g6 w1 hg hf H) | (have hh := g4; clear hh; intro g5 w1 hg hf H) | (have hh := g3; clear hh; intro g4 w1 hg hf H) | (have hh := g2; clear hh; intro g3 w1 hg hf H) | (have hh := g1; clear hh; intro g2 w1 hg hf H) | (have hh := g0; clear hh; intro g1 w1 hg hf H) | intro g0 w1 hg hf H); (first | replace hf := hf.kp | clear hf)) | (revert H; refine x_sF ?_; intro w1 hf H hk; clear hf hk))
     go_roundw
     case rel => exact ⟨k + 1, M, p, c, S0, rfl, rfl, by omega, by omega, HM2, H.arr (by repeat (first | exact Pm.nil _ | (apply Pm.cons; · (repeat first | exact Rm.here _ | apply Rm.there))))⟩
     case measure => (simp [intOf]; try omega)
   ·have hs0' : ¬ (sym : Int) = 0 := by omega
    have hne' : ¬ (xr : Int) = (xc : Int) := by omega
    by_cases hs2' : sym = 2
    ·have hs2a : 2 ≤ sym := by omega
     obtain ⟨f, hf0⟩ : ∃ f, negF xv = f := ⟨_, rfl⟩
     have HF := hid hf0
     have HM2 := hid (show M ++ [(xc, xr, f)] = L ++ (L.take (k + 1)).flatMap (mirE sym) by
      rw [HM.out, HT1.out, List.flatMap_append]
      have : mirE sym (xr, xc, xv) = [(xc, xr, f)] := by unfold mirE; rw [if_neg h0, if_pos hs2', hf0]
      simp [this])
     clear h0 hf0 hs2'
     go_wp2_with (first | refine x_e (c_lnO rfl rfl (H.rowo 1) hpre rfl) ?_ | refine x_q H ?_ | (revert H; refine x_g ?_; (first | (have hh := g5; clear hh; intro g6 w1 hg hf H) | (have hh := g4; clear hh; intro g5 w1 hg hf H) | (have hh := g3; clear hh; intro g4 w1 hg hf H) | (have hh := g2; clear hh; intro g3 w1 hg hf H) | (have hh := g1; clear hh; intro g2 w1 hg hf H) | (have hh := g0; clear hh; intro g1 w1 hg hf H) | intro g0 w1 hg hf H); (first | replace hf := hf.kp | clear hf)) | (revert H; refine x_sF ?_; intro w1 hf H hk; clear hf hk))
     (refine x_c H (fneg_any _ hv64 (hid rfl) HK3 HF) ?_; clear H; rintro e w1 ⟨rfl, hF⟩ H; clear hF)
     go_wp2_with (first | (refine is_blt (b := .append) rfl ?_; go_loud (refine wl_rw rfl (fun K hK => c_aprS H rfl rfl rfl 0 (H.rd (b := g2) (off := 0) (vs := eC (xc, xr, f)) List.prefix_rfl) rfl (eC_one _) (by omega) (by unfold maxLen; omega) (fun p1 c1 w1 S' hf H1 => hK _ _ ?_))); (clear hK K); (clear H; have H := H1; clear H1; (try dsimp only at H); (first | replace hf := hf.kp | clear hf)); (simp only [nrm, ↓reduceIte, Nat.reduceAdd])) | refine x_q H ?_ | (revert H; refine x_g ?_; (first | (have hh := g5; clear hh; intro g6 w1 hg hf H) | (have hh := g4; clear hh; intro g5 w1 hg hf H) | (have hh := g3; clear hh; intro g4 w1 hg hf H) | (have hh := g2; clear hh; intro g3 w1 hg hf H) | (have hh := g1; clear hh; intro g2 w1 hg hf H) | (have hh := g0; clear hh; intro g1 w1 hg hf H) | intro g0 w1 hg hf H); (first | replace hf := hf.kp | clear hf)))
     go_roundw
     case rel => exact ⟨k + 1, M ++ [(xc, xr, f)], _, _, S', by rw [List.length_append]; rfl, rfl, by omega, by rw [List.length_append]; simp only [List.length_cons, List.length_nil]; omega, HM2, by rw [List.length_append, List.flatMap_append]; exact H.arr (by repeat (first | exact Pm.nil _ | (apply Pm.cons; · (repeat first | exact Rm.here _ | apply Rm.there))))⟩
     case measure => (simp [intOf]; try omega)
    ·have hs2n : ¬ (sym : Int) = 2 := by omega
     have HM2 := hid (show M ++ [(xc, xr, xv)] = L ++ (L.take (k + 1)).flatMap (mirE sym) by
      rw [HM.out, HT1.out, List.flatMap_append]
      have : mirE sym (xr, xc, xv) = [(xc, xr, xv)] := by unfold mirE; rw [if_neg h0, if_neg hs2']
      simp [this])
     clear h0 hs2'
     go_wp2_with (first | refine x_e (c_lnO rfl rfl (H.rowo 1) hpre rfl) ?_ | (refine is_blt (b := .append) rfl ?_; go_loud (refine wl_rw rfl (fun K hK => c_aprS H rfl rfl rfl 0 (H.rd (b := g2) (off := 0) (vs := eC (xc, xr, xv)) List.prefix_rfl) rfl (eC_one _) (by omega) (by unfold maxLen; omega) (fun p1 c1 w1 S' hf H1 => hK _ _ ?_))); (clear hK K); (clear H; have H := H1; clear H1; (try dsimp only at H); (first | replace hf := hf.kp | clear hf)); (simp only [nrm, ↓reduceIte, Nat.reduceAdd])) | refine x_q H ?_ | (revert H; refine x_g ?_; (first | (have hh := g5; clear hh; intro g6 w1 hg hf H) | (have hh := g4; clear hh; intro g5 w1 hg hf H) | (have hh := g3; clear hh; intro g4 w1 hg hf H) | (have hh := g2; clear hh; intro g3 w1 hg hf H) | (have hh := g1; clear hh; intro g2 w1 hg hf H) | (have hh := g0; clear hh; intro g1 w1 hg hf H) | intro g0 w1 hg hf H); (first | replace hf := hf.kp | clear hf)) | (revert H; refine x_sF ?_; intro w1 hf H hk; clear hf hk))
     go_roundw
     case rel => exact ⟨k + 1, M ++ [(xc, xr, xv)], _, _, S', by rw [List.length_append]; rfl, rfl, by omega, by rw [List.length_append]; simp only [List.length_cons, List.length_nil]; omega, HM2, by rw [List.length_append, List.flatMap_append]; exact H.arr (by repeat (first | exact Pm.nil _ | (apply Pm.cons; · (repeat first | exact Rm.here _ | apply Rm.there))))⟩
     case measure => (simp [intOf]; try omega)
  ·have HMM := hid (show M = mirr sym L by rw [HM.out, hML.out, List.take_of_length_le (by omega)])
   go_wp2_with (refine x_q H ?_)
   refine Calls.mono (assemble_any _ rows cols hr2 hc2 M (by rw [HMM.out]; exact HE.out) (by rw [HMM.out]; exact HOK.out) (EntR.of (H.rowo 0)) (HT.out _ H.fr)) ?_
   rintro e w1 ⟨v1, v2, v3, B, rfl, hF, hM3, hB⟩
   rw [HMM.out] at hM3
   have hsz := H.fr.size
   obtain ⟨S1, S2, S3, hBe, H1⟩ := H.matB 11 12 13 hF hM3 hB
   clear H
   have H := H1
   clear H1 hF hM3
   have hBf := hid (fun x (hx : x ∈ B) => Nat.le_trans hsz (hB x hx))
   subst hBe
   clear hB
   simp only [List.length_map, List.length_range] at H
   obtain ⟨q1, d1, rfl, _⟩ := (H.rowo 11).form
   obtain ⟨q2, d2, rfl, _⟩ := (H.rowo 12).form
   obtain ⟨q3, d3, rfl, _⟩ := (H.rowo 13).form
   go_wp2_with (revert H; refine x_sF ?_; intro w1 hf H hk; clear hf hk)
   refine c_post H rfl rfl rfl ?_
   have H3 : Hp S w w1 [.obj 11 S1 (RowAt 3 1 (.slice q1 (cols + 1) d1) (cols + 1) (((List.range (cols + 1)).map (pre (entP (mirr sym L) rows cols))).map iV) S1), .obj 12 S2 (RowAt 3 1 (.slice q2 (entP (mirr sym L) rows cols).length d2) (entP (mirr sym L) rows cols).length (((entP (mirr sym L) rows cols).map (·.1)).map iV) S2), .obj 13 S3 (RowAt 25 1 (.slice q3 (entP (mirr sym L) rows cols).length d3) (entP (mirr sym L) rows cols).length (((entP (mirr sym L) rows cols).map (·.2.2)).map uV) S3)] := H.arr (by repeat (first | exact Pm.nil _ | (apply Pm.cons; · (repeat first | exact Rm.here _ | apply Rm.there))))
   exact ⟨_, _, _, S1 ++ (S2 ++ S3), rfl, H.fr, mat_mk (by simpa [Ent.own] using H3.nodup) (H3.rowo 11) (H3.rowo 12) (H3.rowo 13) rfl rfl rfl (by simp [packM]) (by simp [packM]) (by simp [packM]), hBf.out⟩
end Go.Proofs.YtbiohhmpclnpgaaGreatDoor
