import Derived.Test.YtbiohhmpclnpgaaGreatDoorXMd6
import Derived.Test.YtbiohhmpclnpgaaGreatDoorXMc5
namespace Go.Proofs.YtbiohhmpclnpgaaGreatDoor
open Go.RowKit
set_option linter.unusedSimpArgs false
set_option linter.unusedVariables false
set_option maxHeartbeats 8000000
set_option maxRecDepth 100000
attribute [local irreducible] wpList Code.wp Plan.wp stsE mixE pre cntE
section
variable {P : Program} {a : Act} {w : World} {o : Oper}
theorem ev_cut {t : TypeId} {x y y2 : Operand} (ho : o.op = .slice t x (some y) (some y2) none) {b n c : Nat} (hx : a.eval x = .slice (some ⟨b, 0, none⟩) n c) {k k2 : IntKind} {i j : Nat} (hy : a.eval y = .int k (i : Int)) (hy2 : a.eval y2 = .int k2 (j : Int)) {e : TypeId} {z : List Value} {by' : Nat} [h : Si P t e z 1 by'] (m : Nat) (hij : i + m = j) (h2 : j ≤ c) (h3 : i < c) : (execOp a.eval o).run P w = .ok (.value (.slice (some ⟨b, i, none⟩) m (c - i))) w := by
 have := c_sslh (P := P) (w := w) ho hx hy hy2 (by omega) (by omega) (by omega)
 rw [if_neg (by omega)] at this
 rw [this]
 have e1 : ((j : Int).toNat - (i : Int).toNat) = m := by omega
 have e2 : 0 + (i : Int).toNat * 1 = i := by omega
 rw [e1, e2]
 rfl
theorem bsearch_hit (w : World) {g q n c t k : Nat} (xs : List Nat) (hn : xs.length = n) (hn2 : n ≤ 100000) (hs : xs.Pairwise (· < ·)) (hc : ∀ j u, xs[j]? = some u → w.cell? ⟨g, q + j, none⟩ = some (iV u)) (hk : xs[k]? = some t) :
  Calls Tryz.prog 120 #[.slice (some ⟨g, q, none⟩) n c, .int .i64 (t : Int)] w fun e w' => e = .returned (.tuple #[.int .i64 (k : Int), .bool true]) ∧ Fr [] w w' := by
 refine Calls.mono (bsearch_any w xs hn hn2 hs fun j u hj => ⟨g, q, rfl, hc j u hj⟩) ?_
 rintro e w' ⟨i, rfl, hF, hL⟩
 obtain rfl := hL.hit hs hk
 exact ⟨by rw [hk]; simp, hF⟩
end
theorem ap_nodup {L : List En} (h : L.Pairwise apE) : L.Nodup := h.imp fun {a b} k e => k (by rw [e]; exact ⟨rfl, rfl⟩)
theorem entP_len {L : List En} {m n : Nat} (h : okM m n L) : (entP L m n).length = L.length :=
 ((List.perm_ext_iff_of_nodup (ap_nodup ((entP_sorted L m n).imp fun k => k.ap)) (ap_nodup h.1)).2 (mem_entP h.1 (fun x hx => ⟨(h.2 x hx).1, (h.2 x hx).2.1⟩))).length_eq
theorem stE_at {S : List En} {n j : Nat} (h : j ≤ n) : (((List.range (n + 1)).map (pre S)).map iV)[j]? = some (.int .i64 (pre S j : Int)) := by
 rw [List.getElem?_map, List.getElem?_map, List.getElem?_range (by omega)]
 rfl
set_option maxHeartbeats 64000000 in
theorem assemble_any (w : World) (rows cols : Nat) (hr2 : rows ≤ 200) (hc2 : cols ≤ 200) {p : Option Addr} {c : Nat} (E : List En) (hE : E.length ≤ 20) (hok : okM rows cols E) (hR : EntR w p E) (hT : La w) :
  Calls Tryz.prog 78 #[.int .i64 (rows : Int), .int .i64 (cols : Int), .slice p E.length c] w (MatR rows cols ((List.range (cols + 1)).map (pre (entP E rows cols))) ((entP E rows cols).map (·.1)) ((entP E rows cols).map (·.2.2)) w) := by
 have HR := hid hR
 have HSO := hid (entP_sorted E rows cols)
 have HMEM := hid (fun x => mem_entP hok.1 (fun x hx => ⟨(hok.2 x hx).1, (hok.2 x hx).2.1⟩) x (n := cols))
 have HOK := hid hok.2
 have hSE := entP_len hok
 obtain ⟨S, hS⟩ : ∃ S, entP E rows cols = S := ⟨_, rfl⟩
 rw [hS] at HSO HMEM hSE ⊢
 have HS0 := hid hS
 clear hS
 have H := Hp.start [] w
 go_enter Tryz.func78, Tryz.ntmps78
 go_wp2_with (revert H; refine x_g ?_; (first | (have hh := g5; clear hh; intro g6 w1 hg hf H) | (have hh := g4; clear hh; intro g5 w1 hg hf H) | (have hh := g3; clear hh; intro g4 w1 hg hf H) | (have hh := g2; clear hh; intro g3 w1 hg hf H) | (have hh := g1; clear hh; intro g2 w1 hg hf H) | (have hh := g0; clear hh; intro g1 w1 hg hf H) | intro g0 w1 hg hf H); replace hf := hf.kp)
 refine Calls.mono (fromEntries_any _ rows cols hr2 hc2 E hE hok (HR.out.fr H.fr) (hT.fr H.fr)) ?_
 rintro e w1 ⟨v1, v2, v3, B, rfl, hF, hM, hB⟩
 clear hok hR hT
 rw [HS0.out] at hM
 obtain ⟨S1, S2, S3, H1⟩ := H.mat 1 2 3 hF hM hB
 clear H hF hM hB HS0
 have H := H1
 clear H1
 have HN0 : ∃ N, S.length = N := ⟨_, rfl⟩
 obtain ⟨N, hN⟩ := HN0
 rw [List.length_map, List.length_map, List.length_map, List.length_map, List.length_range, hN, ← valA_zero E S] at H
 have HN := hid hN
 have hN20 : N ≤ 20 := by omega
 clear hN hSE
 obtain ⟨g1', c1', rfl, rfl⟩ := (H.rowo 1).some (by omega)
 obtain ⟨p2, c2, rfl, hc2', _⟩ := (H.rowo 2).form
 obtain ⟨p3, c3, rfl, hc3', _⟩ := (H.rowo 3).form
 go_wp2_with (first | (revert H; refine x_g ?_; (first | (have hh := g5; clear hh; intro g6 w1 hg hf H) | (have hh := g4; clear hh; intro g5 w1 hg hf H) | (have hh := g3; clear hh; intro g4 w1 hg hf H) | (have hh := g2; clear hh; intro g3 w1 hg hf H) | (have hh := g1; clear hh; intro g2 w1 hg hf H) | (have hh := g0; clear hh; intro g1 w1 hg hf H) | intro g0 w1 hg hf H); replace hf := hf.kp) | (revert H; refine x_sF ?_; intro w1 hf H hk; clear hf hk; (first | replace hf := hf.kp | clear hf)))
 go_loopw [22] (fun s22 wr => ∃ k : Nat, s22 = .int .i64 (k : Int) ∧ k ≤ E.length ∧ Hp [] w wr [.obj 3 S3 (RowAt 25 1 (.slice p3 N c3) N ((S.map (valA E k)).map uV) S3), .obj 1 [g1'] (RowAt 3 1 (.slice (some ⟨g1', 0, none⟩) (cols + 1) c1') (cols + 1) (((List.range (cols + 1)).map (pre S)).map iV) [g1']), .obj 2 S2 (RowAt 3 1 (.slice p2 N c2) N ((S.map (·.1)).map iV) S2), .blk g1 [iV rows, iV cols, .slice (some ⟨g1', 0, none⟩) (cols + 1) c1', .slice p2 N c2, .slice p3 N c3] 32, .blk g0 [.int .i64 0, .int .i64 0, .slice none 0 0, .slice none 0 0, .slice none 0 0] 32]) (fun v _ => E.length - (intOf v).toNat)
 case atStart => exact ⟨0, rfl, Nat.zero_le _, H.arr (by repeat (first | exact Pm.nil _ | (apply Pm.cons; · (repeat first | exact Rm.here _ | apply Rm.there))))⟩
 case round =>
  clear H
  obtain ⟨k, rfl, hk, H⟩ := hrel
  by_cases hlt : k < E.length
  ·obtain ⟨⟨xr, xc, xv⟩, hx⟩ : ∃ x, E[k]? = some x := ⟨_, List.getElem?_eq_getElem hlt⟩
   have hxb := HOK.out _ (List.mem_of_getElem? hx)
   simp only at hxb
   have hv64 := hxb.2.2.2
   have hxc := hxb.2.1
   obtain ⟨g, hg⟩ := HR.out.some hx
   subst hg
   have HX := hid hx
   by_cases hz : xv = 9223372036854775808
   ·subst hz
    obtain ⟨q, hq⟩ := List.mem_iff_getElem?.1 ((HMEM.out _).2 (List.mem_of_getElem? hx))
    obtain ⟨kx, hqk, hkc, hkx⟩ := entry_at HSO.out hq
    simp only at hqk hkc hkx
    have HQ := hid hq
    have hpn := pre_succ S xc
    have hple := pre_le S (xc + 1)
    rw [HN.out] at hple
    obtain ⟨A, hA⟩ : ∃ A, pre S xc = A := ⟨_, rfl⟩
    obtain ⟨C, hC⟩ : ∃ C, cntE S xc = C := ⟨_, rfl⟩
    obtain ⟨Bn, hBn⟩ : ∃ Bn, pre S (xc + 1) = Bn := ⟨_, rfl⟩
    have hs1 : (((List.range (cols + 1)).map (pre S)).map iV)[xc]? = some (.int .i64 (A : Int)) := by rw [← hA]; exact stE_at (by omega)
    have hs2 : (((List.range (cols + 1)).map (pre S)).map iV)[xc + 1]? = some (.int .i64 (Bn : Int)) := by rw [← hBn]; exact stE_at (by omega)
    have hrows := sorted_rows HSO.out xc
    rw [hA, hC] at hrows hkx hpn
    rw [hBn] at hpn hple
    rw [hA] at hqk
    rw [hC] at hkc
    have HROW := hid hrows
    have HKX := hid (show (((S.drop A).take C).map (·.1))[kx]? = some xr by rw [List.getElem?_map, hkx]; rfl)
    have hlen : (((S.drop A).take C).map (·.1)).length = C := by rw [List.length_map, List.length_take, List.length_drop, HN.out]; omega
    have HLEN := hid hlen
    have HQK := hid hqk
    have hqN : q < N := by rw [← HN.out]; exact (List.getElem?_eq_some_iff.1 hq).1
    obtain ⟨g2', c2'', he2, rfl⟩ := (H.rowo 2).some (by omega)
    cases he2
    have HC1 := hid (show (xc : Int) + 1 = ((xc + 1 : Nat) : Int) by omega)
    have HCOL := hid (fun wr (h : RowAt 3 1 (.slice (some ⟨g2', 0, none⟩) N c2) N ((S.map (·.1)).map iV) [g2'] wr) (j u : Nat) (hj : (((S.drop A).take C).map (·.1))[j]? = some u) => show wr.cell? ⟨g2', A + j, none⟩ = some (iV u) from h.cell (by
     have hjl := (List.getElem?_eq_some_iff.1 hj).1
     rw [List.length_map, List.length_take, List.length_drop] at hjl
     rw [List.getElem?_map, List.getElem?_take_of_lt (by omega), List.getElem?_drop] at hj
     rw [List.getElem?_map, List.getElem?_map]
     cases hy : S[A + j]? with
     | none => rw [hy] at hj; cases hj
     | some y => rw [hy] at hj; cases hj; rfl))
    have hNC := hid hlen
    clear hx hxb hq hkx hrows hlen hA hC hBn hqk
    have HPN := hid hpn
    have HPL := hid hple
    have hkcC : kx < C := hkc
    have hBl : Bn ≤ N := hple
    have hA20 : A ≤ 20 := by omega
    have hC20 : C ≤ 20 := by omega
    clear hpn hple hkc
    have HQ1 := hid (show (A : Int) + (kx : Int) = (q : Int) by rw [HQK.out]; omega)
    obtain ⟨g3', c3'', pad, he3, hS3, hn3, hm3, hl3, H1⟩ := H.rowOpen 3 (by omega)
    cases he3
    subst hS3
    clear H
    have H := H1
    clear H1
    have hqlen : q < ((S.map (valA E k)).map uV ++ pad).length := by rw [List.length_append, List.length_map, List.length_map, HN.out]; omega
    have HP3 := hid (And.intro hn3 (And.intro hm3 hl3))
    clear hn3 hm3 hl3
    go_wp2_with (first | refine x_e (ev_ldE rfl rfl (HR.out.fr H.fr) HX.out) ?_ | refine x_q H ?_ | (revert H; refine x_g ?_; (first | (have hh := g5; clear hh; intro g6 w1 hg hf H) | (have hh := g4; clear hh; intro g5 w1 hg hf H) | (have hh := g3; clear hh; intro g4 w1 hg hf H) | (have hh := g2; clear hh; intro g3 w1 hg hf H) | (have hh := g1; clear hh; intro g2 w1 hg hf H) | (have hh := g0; clear hh; intro g1 w1 hg hf H) | intro g0 w1 hg hf H); replace hf := hf.kp) | (revert H; refine x_sF ?_; intro w1 hf H hk; clear hf hk; (first | replace hf := hf.kp | clear hf)))
    (revert H; refine w_p 24 (.st 0 (.st 1 (.st 2 (.st 3 (.st 4 (.st 5 (.st 6 (.st 7 (.st 8 (.st 9 (.st 10 (.st 11 (.st 12 (.st 13 (.st 14 (.st 15 (.st 16 (.st 17 (.ld 18 (.st 19 (.st 20 (.st 21 (.st 22 (.st 23 .done)))))))))))))))))))))))) ?_; intro w1 H)
    iterate 6 refine p_q ?_
    (refine p_e rfl (fun w H => ev_ixE xc xc rfl rfl rfl (hid rfl)) ?_)
    (refine p_e rfl (fun w H => c_l1O rfl rfl (H.rowo 1) hs1) ?_)
    iterate 5 refine p_q ?_
    (refine p_e rfl (fun w H => ev_ixE (xc + 1) (xc + 1) rfl rfl rfl HC1) ?_)
    (refine p_e rfl (fun w H => c_l1O rfl rfl (H.rowo 1) hs2) ?_)
    (refine p_e rfl (fun w H => ev_cut rfl rfl rfl rfl C (by have := HPN.out; omega) (by omega) (by have := HPN.out; omega)) ?_)
    iterate 2 refine p_q ?_
    (refine p_c H rfl rfl Tryz.func120 (bsearch_hit _ (((S.drop A).take C).map (·.1)) HLEN.out (by omega) HROW.out (HCOL.out _ (H.rowo 2)) HKX.out) ?_; clear H; rintro e w1 ⟨rfl, hF⟩ H; refine p_r ?_; clear hF)
    iterate 5 refine p_q ?_
    (refine pl_done ?_)
    go_wp2_with fail
    (revert H; refine w_p 11 (.st 0 (.st 1 (.st 2 (.st 3 (.st 4 (.st 5 (.st 6 (.st 7 (.st 8 (.st 9 (.st 10 (.ld 11 .done)))))))))))) ?_; intro w1 H)
    iterate 6 refine p_q ?_
    (refine p_e rfl (fun w H => ev_ixE xc xc rfl rfl rfl (hid rfl)) ?_)
    (refine p_e rfl (fun w H => c_l1O rfl rfl (H.rowo 1) hs1) ?_)
    iterate 2 refine p_q ?_
    (refine p_e rfl (fun w H => ev_ixE q q rfl rfl rfl HQ1) ?_)
    (revert H; refine p_s ?_; intro w1 hf H; (first | replace hf := hf.kp | clear hf))
    (refine pl_done ?_)
    go_wp2_with fail
    go_roundw
    case rel =>
     have e1 : ((S.map (valA E k)).map uV ++ pad).set q (.int .u64 9223372036854775808) = (S.map (valA E (k + 1))).map uV ++ pad := by
      rw [List.set_append_left _ _ (by rw [List.length_map, List.length_map, HN.out]; exact hqN), ← valA_set HSO.out HX.out rfl HQ.out, List.map_set]
      rfl
     have H1 := H.rowShut (g := g3') 3 (sz := 1) (n := N) (cap := c3) (xs := (S.map (valA E (k + 1))).map uV) (pad := pad) e1 (by simp [HN.out]) HP3.out.1 HP3.out.2.1 (by have h := HP3.out.2.2; rw [List.length_append] at h ⊢; simpa using h) (.tail _ (.head _))
     exact ⟨k + 1, rfl, by omega, H1.arr (by repeat (first | exact Pm.nil _ | (apply Pm.cons; · (repeat first | exact Rm.here _ | apply Rm.there))))⟩
    case measure => (simp [intOf]; try omega)
   ·have hz' : ¬ (xv : Int) = 9223372036854775808 := by omega
    have e1 := valA_skip (S := S) hx hz
    clear hx hxb hz
    go_wp2_with (first | refine x_e (ev_ldE rfl rfl (HR.out.fr H.fr) HX.out) ?_ | refine x_q H ?_ | (revert H; refine x_g ?_; (first | (have hh := g5; clear hh; intro g6 w1 hg hf H) | (have hh := g4; clear hh; intro g5 w1 hg hf H) | (have hh := g3; clear hh; intro g4 w1 hg hf H) | (have hh := g2; clear hh; intro g3 w1 hg hf H) | (have hh := g1; clear hh; intro g2 w1 hg hf H) | (have hh := g0; clear hh; intro g1 w1 hg hf H) | intro g0 w1 hg hf H); replace hf := hf.kp) | (revert H; refine x_sF ?_; intro w1 hf H hk; clear hf hk; (first | replace hf := hf.kp | clear hf)))
    go_roundw
    case rel => exact ⟨k + 1, rfl, by omega, by rw [e1]; exact H.arr (by repeat (first | exact Pm.nil _ | (apply Pm.cons; · (repeat first | exact Rm.here _ | apply Rm.there))))⟩
    case measure => (simp [intOf]; try omega)
  ·have hke : k = E.length := by omega
   rw [hke, valA_end (fun x hx => (HMEM.out x).1 hx)] at H
   clear hke
   go_wp2_with (first | refine x_q H ?_ | (revert H; refine x_sF ?_; intro w1 hf H hk; clear hf hk; (first | replace hf := hf.kp | clear hf)))
   refine c_post H rfl rfl rfl ?_
   have H3 : Hp [] w w1 [.obj 1 [g1'] (RowAt 3 1 (.slice (some ⟨g1', 0, none⟩) (cols + 1) c1') (cols + 1) (((List.range (cols + 1)).map (pre S)).map iV) [g1']), .obj 2 S2 (RowAt 3 1 (.slice p2 N c2) N ((S.map (·.1)).map iV) S2), .obj 3 S3 (RowAt 25 1 (.slice p3 N c3) N ((S.map (·.2.2)).map uV) S3)] := H.arr (by repeat (first | exact Pm.nil _ | (apply Pm.cons; · (repeat first | exact Rm.here _ | apply Rm.there))))
   exact ⟨_, _, _, [g1'] ++ (S2 ++ S3), rfl, H.fr, mat_mk (by simpa [Ent.own] using H3.nodup) (H3.rowo 1) (H3.rowo 2) (H3.rowo 3) rfl rfl rfl (by simp) (by simp [HN.out]) (by simp [HN.out]), fun x hx => H3.fresh x (by simpa [Ent.own] using hx)⟩
end Go.Proofs.YtbiohhmpclnpgaaGreatDoor
