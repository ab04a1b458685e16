import Derived.Test.YtomggcdmhflboaaGreatDoorXMc4
import Derived.Test.YtomggcdmhflboaaGreatDoorXMc5
namespace Go.Proofs.YtomggcdmhflboaaGreatDoor
open Go.RowKit
set_option linter.unusedSimpArgs false
set_option linter.unusedVariables false
set_option maxHeartbeats 8000000
set_option maxRecDepth 100000
attribute [local irreducible] wpList Code.wp Plan.wp
theorem one_ar {field sym m n k pr pc pv : Nat} {s : List UInt8} (hp : (posP sym m n)[k]? = some (pr, pc, pv)) : one ⟨true, field, sym⟩ m n k [s] = (fval field s).map fun f => (pr, pc, f) := by
 rw [posP_allp, List.getElem?_map, Option.map_eq_some_iff] at hp
 obtain ⟨⟨a, b⟩, h1, h2⟩ := hp
 cases h2
 unfold one
 rw [if_pos rfl, if_pos (show [s].length = 1 from rfl)]
 have e : (allp sym m n).getD k (0, 0) = (a, b) := by rw [List.getD_eq_getElem?_getD, h1]; rfl
 simp only [e]
 rfl
theorem one_no {field sym m n k : Nat} {ws : List (List UInt8)} (h : ¬ ws.length = 1) : one ⟨true, field, sym⟩ m n k ws = none := by
 unfold one
 rw [if_pos rfl, if_neg h]
theorem flat_pre (P : List En) (k : Nat) {x : En} (h : P[k]? = some x) (pad : List Value) : eC x <+: (P.flatMap eC ++ pad).drop (k * 3) := by
 obtain ⟨hl, he⟩ := List.getElem?_eq_some_iff.1 h
 have e1 : P = P.take k ++ x :: P.drop (k + 1) := by rw [← he, List.getElem_cons_drop, List.take_append_drop]
 have h1 := flatE_at (P.take k) (P.drop (k + 1)) x pad
 rw [← e1, List.length_take, Nat.min_eq_left (by omega)] at h1
 exact h1
set_option maxHeartbeats 32000000 in
theorem entries_t {g b c i : Nat} {Ls : List (List UInt8)} {w : World} (hR : RdrAt g b c Ls i w) (hi : i ≤ Ls.length + 1) (field sym m n z : Nat) (hs2 : sym ≤ 2) (hf2 : field ≤ 2) (hm : m ≤ 200) (hn : n ≤ 200) (hz : z ≤ 10000) (hzP : z ≤ (posP sym m n).length) (hT : ∀ w', Fr [g, b] w w' → La w') {o : Except (Nat × Nat) (List En × List (Nat × List (List UInt8)))} (ho : Hid (ents ⟨true, field, sym⟩ m n (Ls.length + 1) z [] (sig i (Ls.drop i)) = o)) :
  Calls Tryz.prog 22 #[.pointer (some ⟨g, 0, none⟩), fileV ⟨true, field, sym⟩, .int .i64 (m : Int), .int .i64 (n : Int), .int .i64 (z : Int)] w fun e w' => Fr [g, b] w w' ∧ EsPost o w g b c Ls e w' := by
 have HT := hid hT
 have H := hR.start.newRow 0 (e := 69) (sz := 3)
 clear hR hT
 unfold fileV
 go_enter Tryz.func22, Tryz.ntmps22
 go_wp2_with (first | refine x_q H ?_ | refine x_cm (fun h => ?_) (fun h => ?_) | refine x_l H ?_ | (revert H; (first | (refine x_g ?_; intro g1 w1 hg hf H) | (refine x_s ?_; intro w1 hf H) | (refine x_sF ?_; intro w1 hf H hk; clear hf hk)); (first | replace hf := hf.kp | clear hf)))
 refine Calls.mono (positions_any _ ⟨true, field, sym⟩ hs2 m n hm hn) ?_
 rintro e w1 ⟨v11, rfl, hF, hown⟩
 obtain ⟨S2, H1⟩ := H.rowNew 2 hF hown
 clear H hF hown
 have H := H1
 clear H1
 simp only at H
 obtain ⟨P, hP⟩ : ∃ P, posP sym m n = P := ⟨_, rfl⟩
 have HP := hid hP
 rw [hP] at H hzP
 clear hP
 go_wp2_with (first | refine x_q H ?_ | refine x_cm (fun h => ?_) (fun h => ?_) | refine x_l H ?_ | (refine x_mm H 1 rfl ?_; clear H; intro mm w1 hf H; clear hf) | (revert H; (first | (refine x_g ?_; intro g1 w1 hg hf H) | (refine x_s ?_; intro w1 hf H) | (refine x_sF ?_; intro w1 hf H hk; clear hf hk)); (first | replace hf := hf.kp | clear hf)))
 go_loopw [13, 27] (fun s13 s27 wr => ∃ (j k : Nat) (L : List En) (v : Value) (S : List Nat), s27 = .int .i64 (j : Int) ∧ j ≤ z ∧ s13 = v ∧ L.length = j ∧ k ≤ Ls.length + 1 ∧ Hid (ents ⟨true, field, sym⟩ m n (Ls.length + 1) (z - j) L (sig k (Ls.drop k)) = o) ∧ Hid (∀ x ∈ L, x.2.2 < 18446744073709551616) ∧ Hp [g, b] w wr [.obj 1 [mm] (SeenAt mm (L.map fun y => (y.1, y.2.1)) [mm]), .obj 2 S2 (RowAt 69 3 v11 P.length (P.flatMap eC) S2), .blk g1 [.int .i64 0, .int .i64 0, .slice none 0 0, .slice none 0 0, .slice none 0 0, .bool true, .int .i64 (field : Int), .int .i64 (sym : Int)] 30, .obj 0 S (RowAt 69 3 v L.length (L.flatMap eC) S), .obj 7 [g, b] (RdrAt g b c Ls k)]) (fun _ v _ => z - (intOf v).toNat)
 case atStart => exact ⟨0, i, [], _, _, rfl, Nat.zero_le _, rfl, rfl, hi, ho, hid (by simp), H⟩
 case round =>
  clear H
  obtain ⟨j, k, L, v, S, rfl, hj, hv, hL, hk, HO, HB, H⟩ := hrel
  obtain ⟨p5, c5, he, _, hc5, _⟩ := (H.rowo 0).form
  unfold maxLen at hc5
  subst he
  subst hv
  subst hL
  have hLz : L.length ≤ 10000 := by omega
  by_cases hlt : L.length < z
  ·have HO1 := hid (show ents ⟨true, field, sym⟩ m n (Ls.length + 1) (z - (L.length + 1) + 1) L (sig k (Ls.drop k)) = o by rw [show z - (L.length + 1) + 1 = z - L.length by omega]; exact HO.out)
   clear HO ho
   go_wp2_with (first | refine x_q H ?_ | refine x_cm (fun h => ?_) (fun h => ?_) | refine x_l H ?_ | (revert H; (first | (refine x_g ?_; intro g1 w1 hg hf H) | (refine x_s ?_; intro w1 hf H) | (refine x_sF ?_; intro w1 hf H hk; clear hf hk)); (first | replace hf := hf.kp | clear hf)))
   (have hR0 := H.ob 7; refine Calls.mono (line_any hR0 hk) ?_; rintro e w1 ⟨v, i', rfl, hF0, hR1, hcase⟩; have hF1 := hF0.mono (S := [g, b]) (by simp); have H1 := H.upd (w' := w1) 7 hF1 (S' := [g, b]) hR1 (by simp))
   clear hR0 hF0 hR1
   rcases hcase with ⟨hs, rfl, rfl⟩ | ⟨ws, r, q, hs, rfl, hq, hc⟩
   ·have HO : Hid (o = .error (Ls.length + 1, 103)) := hid (by rw [← HO1.out, hs]; rfl)
    clear H hs hF1
    have H := H1
    clear H1
    go_wp2_with (first | refine x_q H ?_ | refine x_cm (fun h => ?_) (fun h => ?_) | refine x_l H ?_ | (revert H; (first | (refine x_g ?_; intro g1 w1 hg hf H) | (refine x_s ?_; intro w1 hf H) | (refine x_sF ?_; intro w1 hf H hk; clear hf hk)); (first | replace hf := hf.kp | clear hf)))
    (refine x_c H (demand_bad _ _ _ _ (H.ob 7).cell) ?_; clear H; rintro e w1 ⟨rfl, hF⟩ H; clear hF; refine ⟨rfl, ?_⟩)
    exact ⟨H.fr, by rw [HO.out]; rfl⟩
   ·have H2 := H1.push (b := q) hc (.inr (Nat.le_trans H.fr.size hq)) (H.notOwn hq)
    have hnx := sig_next hs
    have hi'k : i' ≤ Ls.length + 1 := by omega
    have HRest := hid hnx.2.2.1
    have hwz : ∀ x ∈ ws, x.length ≤ 2000000 := by
     obtain ⟨_, _, _, _, s, hsm, rfl⟩ := hnx
     intro x hx
     exact Nat.le_trans (mwords_size hx) ((H1.ob 7).hl s hsm)
    have hwn : ws.length ≤ 2000001 := by
     obtain ⟨_, _, _, _, s, hsm, rfl⟩ := hnx
     have := mwords_count s
     have := (H1.ob 7).hl s hsm
     omega
    have HO2 := hid (show eStep ⟨true, field, sym⟩ m n (Ls.length + 1) (z - (L.length + 1)) L i' r (one ⟨true, field, sym⟩ m n L.length ws) = o by rw [← HO1.out, hs, ents_step])
    clear H H1 hs hF1 hc hnx HO1
    have H := H2
    clear H2
    have HWZ := hid hwz
    clear hwz hq
    by_cases hl1 : ws.length = 1
    ·obtain ⟨s, rfl⟩ := List.length_eq_one_iff.1 hl1
     clear hl1 hwn
     obtain ⟨⟨xr, xc, pv⟩, hp⟩ : ∃ p, P[L.length]? = some p := ⟨_, List.getElem?_eq_getElem (by omega)⟩
     have hone := one_ar (field := field) (s := s) (show (posP sym m n)[L.length]? = some (xr, xc, pv) by rw [HP.out]; exact hp)
     rw [hone] at HO2
     obtain ⟨ov, hov0⟩ : ∃ v, fval field s = v := ⟨_, rfl⟩
     have HE := hid hov0
     rw [hov0] at HO2
     clear hov0 hone
     have hsl := HWZ.out s (by simp)
     obtain ⟨gp, cp, pad, hv11, hS2, hcp1, hcp2, hcpl, H1⟩ := H.rowOpen 2 (by omega)
     subst hv11
     subst hS2
     have hpre : [.int .i64 (xr : Int), .int .i64 (xc : Int), .int .u64 (pv : Int)] <+: (P.flatMap eC ++ pad).drop (L.length * 3) := flat_pre P L.length hp pad
     have hPl := hid (show (P.flatMap eC).length = P.length * 3 from flatE_len P)
     have HPC := hid (And.intro hcp1 (And.intro hcp2 hcpl))
     have hPn : L.length < P.length := by omega
     clear H hp hcp1 hcp2 hcpl
     have H := H1
     clear H1
     go_wp2_with (first | refine x_q H ?_ | refine x_cm (fun h => ?_) (fun h => ?_) | refine x_l H ?_ | (revert H; (first | (refine x_g ?_; intro g1 w1 hg hf H) | (refine x_s ?_; intro w1 hf H) | (refine x_sF ?_; intro w1 hf H hk; clear hf hk)); (first | replace hf := hf.kp | clear hf)))
     (refine x_c H (demand_ok _ _ _) ?_; clear H; rintro e w1 ⟨rfl, hF⟩ H; clear hF)
     go_wp2_with (first | refine x_q H ?_ | refine x_cm (fun h => ?_) (fun h => ?_) | refine x_l H ?_ | refine x_e (c_lnp H rfl rfl (hv := hpre) (hn := rfl)) ?_ | (revert H; (first | (refine x_g ?_; intro g1 w1 hg hf H) | (refine x_s ?_; intro w1 hf H) | (refine x_sF ?_; intro w1 hf H hk; clear hf hk)); (first | replace hf := hf.kp | clear hf)))
     (revert H; refine w_p 12 (.st 0 (.st 1 (.st 2 (.st 3 (.st 4 (.ld 5 (.st 6 (.st 7 (.st 8 (.st 9 (.ld 10 (.st 11 .done)))))))))))) ?_ (hs := (.cons _ (List.Sublist.refl _))); intro w1 H)
     iterate 5 refine p_q ?_
     (refine p_c H rfl rfl Tryz.func49 (value_any _ s field hf2 hsl (HT.out _ H.fr) HE) ?_; clear H; rintro e w1 ⟨f, bb, rfl, hF, hf64, hbb, hx⟩ H; refine p_r ?_; clear hF)
     iterate 4 refine p_q ?_
     (revert H; refine p_s ?_; intro w1 hf H; (first | replace hf := hf.kp | clear hf))
     refine p_q ?_
     (refine pl_done ?_)
     all_goals
      have H1 := H.rowShut (g := gp) 2 (sz := 3) (n := P.length) (cap := cp) (xs := P.flatMap eC) (pad := pad) rfl hPl.out HPC.out.1 HPC.out.2.1 HPC.out.2.2 (.tail _ (.tail _ (.tail _ (.head _))))
      clear H hpre
      have H := H1
      clear H1
      cases ov with
      | none =>
       have hb : bb = false := hbb
       subst hb
       have HO : Hid (o = .error (i', 102)) := hid (by rw [← HO2.out]; rfl)
       clear HO2 hbb hx
       go_wp2_with (first | refine x_q H ?_ | refine x_cm (fun h => ?_) (fun h => ?_) | refine x_l H ?_ | (revert H; (first | (refine x_g ?_; intro g1 w1 hg hf H) | (refine x_s ?_; intro w1 hf H) | (refine x_sF ?_; intro w1 hf H hk; clear hf hk)); (first | replace hf := hf.kp | clear hf)))
       (refine x_c H (demand_bad _ _ _ _ (H.ob 7).cell) ?_; clear H; rintro e w1 ⟨rfl, hF⟩ H; clear hF; refine ⟨rfl, ?_⟩)
       exact ⟨H.fr, by rw [HO.out]; rfl⟩
      | some f' =>
       have hb : bb = true := hbb
       have hy := hx f' rfl
       subst hb
       subst hy
       clear hbb hx
       obtain ⟨s, hs0⟩ : ∃ s, seen L (xr, xc, f') = s := ⟨_, rfl⟩
       have HSN := hid ((seen_ks L (xr, xc, f')).trans hs0)
       cases s
       ·have HO3 := hid (show ents ⟨true, field, sym⟩ m n (Ls.length + 1) (z - (L.length + 1)) (L ++ [(xr, xc, f')]) r = o by rw [← HO2.out]; show _ = (if seen L (xr, xc, f') = true then _ else _); rw [hs0]; rfl)
        clear HO2 hs0
        go_wp2_with (first | refine x_q H ?_ | refine x_cm (fun h => ?_) (fun h => ?_) | refine x_l H ?_ | refine x_e (c_look H (.tail _ (.tail _ (.tail _ (.head _)))) rfl rfl (p := (xr, xc)) rfl HSN) ?_ | (revert H; (first | (refine x_g ?_; intro g1 w1 hg hf H) | (refine x_s ?_; intro w1 hf H) | (refine x_sF ?_; intro w1 hf H hk; clear hf hk)); (first | replace hf := hf.kp | clear hf)))
        (refine x_c H (demand_ok _ _ _) ?_; clear H; rintro e w1 ⟨rfl, hF⟩ H; clear hF)
        go_wp2_with (first | refine x_q H ?_ | refine x_cm (fun h => ?_) (fun h => ?_) | refine x_l H ?_ | (refine x_mu (H.pull 1) rfl rfl (p := (xr, xc)) rfl HSN ?_; clear H; intro w1 hf H; clear hf) | (refine is_blt (b := .append) rfl ?_; go_loud (refine wl_rw rfl (fun K hK => c_aprS H rfl rfl rfl 0 (H.rd (b := g1) (off := 0) (vs := eC (xr, xc, f')) List.prefix_rfl) rfl (eC_one _) (by omega) (by unfold maxLen; omega) (fun p1 c1 w1 S' hf H1 => hK _ _ ?_))); (clear hK K); (clear H; have H := H1; clear H1; (try dsimp only at H); (first | replace hf := hf.kp | clear hf)); (simp only [nrm, ↓reduceIte, Nat.reduceAdd])) | (revert H; (first | (refine x_g ?_; intro g1 w1 hg hf H) | (refine x_s ?_; intro w1 hf H) | (refine x_sF ?_; intro w1 hf H hk; clear hf hk)); (first | replace hf := hf.kp | clear hf)))
        go_roundw
        case rel => exact ⟨L.length + 1, i', L ++ [(xr, xc, f')], _, S', rfl, by omega, rfl, by rw [List.length_append]; rfl, by omega, by rw [← HRest.out]; exact HO3, hid (fun y hy => by rcases List.mem_append.1 hy with k | k; exact HB.out y k; rw [List.mem_singleton] at k; subst k; exact hf64), by rw [List.map_append, List.length_append, List.flatMap_append]; exact H.sub (by repeat first | exact List.Sublist.refl _ | exact List.nil_sublist _ | apply List.Sublist.cons_cons | apply List.Sublist.cons)⟩
        case measure => (simp [intOf]; try omega)
       ·have HO : Hid (o = .error (i', 102)) := hid (by rw [← HO2.out]; show (if seen L (xr, xc, f') = true then _ else _) = _; rw [hs0]; rfl)
        clear HO2 hs0
        go_wp2_with (first | refine x_q H ?_ | refine x_cm (fun h => ?_) (fun h => ?_) | refine x_l H ?_ | refine x_e (c_look H (.tail _ (.tail _ (.tail _ (.head _)))) rfl rfl (p := (xr, xc)) rfl HSN) ?_ | (revert H; (first | (refine x_g ?_; intro g1 w1 hg hf H) | (refine x_s ?_; intro w1 hf H) | (refine x_sF ?_; intro w1 hf H hk; clear hf hk)); (first | replace hf := hf.kp | clear hf)))
        (refine x_c H (demand_bad _ _ _ _ (H.ob 7).cell) ?_; clear H; rintro e w1 ⟨rfl, hF⟩ H; clear hF; refine ⟨rfl, ?_⟩)
        exact ⟨H.fr, by rw [HO.out]; rfl⟩
    ·have HO : Hid (o = .error (i', 102)) := hid (by rw [← HO2.out, one_no hl1]; rfl)
     have hl1' : ¬ (ws.length : Int) = 1 := by omega
     clear HO2 hl1
     go_wp2_with (first | refine x_q H ?_ | refine x_cm (fun h => ?_) (fun h => ?_) | refine x_l H ?_ | (revert H; (first | (refine x_g ?_; intro g1 w1 hg hf H) | (refine x_s ?_; intro w1 hf H) | (refine x_sF ?_; intro w1 hf H hk; clear hf hk)); (first | replace hf := hf.kp | clear hf)))
     (refine x_c H (demand_ok _ _ _) ?_; clear H; rintro e w1 ⟨rfl, hF⟩ H; clear hF)
     go_wp2_with (first | refine x_q H ?_ | refine x_cm (fun h => ?_) (fun h => ?_) | refine x_l H ?_ | (revert H; (first | (refine x_g ?_; intro g1 w1 hg hf H) | (refine x_s ?_; intro w1 hf H) | (refine x_sF ?_; intro w1 hf H hk; clear hf hk)); (first | replace hf := hf.kp | clear hf)))
     (refine x_c H (demand_bad _ _ _ _ (H.ob 7).cell) ?_; clear H; rintro e w1 ⟨rfl, hF⟩ H; clear hF; refine ⟨rfl, ?_⟩)
     exact ⟨H.fr, by rw [HO.out]; rfl⟩
  ·have HO2 : Hid (o = .ok (L, sig k (Ls.drop k))) := hid (by rw [← HO.out, show z - L.length = 0 by omega]; rfl)
   clear HO ho
   go_wp2_with (first | refine x_q H ?_ | refine x_cm (fun h => ?_) (fun h => ?_) | refine x_l H ?_ | (revert H; (first | (refine x_g ?_; intro g1 w1 hg hf H) | (refine x_s ?_; intro w1 hf H) | (refine x_sF ?_; intro w1 hf H hk; clear hf hk)); (first | replace hf := hf.kp | clear hf)))
   (refine bodyPost_ret (results_tmp rfl _ _ _) rfl ?_)
   refine ⟨H.fr, ?_⟩
   rw [HO2.out]
   exact ⟨_, k, rfl, RowAt.owns (H.rowo 0) (fun x hx => (H.home 0 x hx).resolve_left (fun h => two_apart (k := 0) (k' := 7) (S := S) (S' := [g, b]) (Q := RowAt 69 3 (.slice p5 L.length c5) L.length (L.flatMap eC) S) (Q' := RdrAt g b c Ls k) (H.sub (by repeat first | exact List.Sublist.refl _ | exact List.nil_sublist _ | apply List.Sublist.cons_cons | apply List.Sublist.cons)) x hx h)), H.ob 7, rfl, hk, HB.out⟩
end Go.Proofs.YtomggcdmhflboaaGreatDoor
