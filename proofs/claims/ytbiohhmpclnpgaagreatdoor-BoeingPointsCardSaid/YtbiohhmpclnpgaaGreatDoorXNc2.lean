import Derived.Test.YtbiohhmpclnpgaaGreatDoorXNc1
namespace Go.Proofs.YtbiohhmpclnpgaaGreatDoor
open Go.RowKit
set_option linter.unusedSimpArgs false
set_option linter.unusedVariables false
set_option maxHeartbeats 8000000
set_option maxRecDepth 100000
attribute [local irreducible] wpList Code.wp Plan.wp
theorem numbers_any (w : World) (c wd p sc : Nat) (hc : c ≤ 999) (hw : wd ≤ 999) (hp9 : p ≤ 999) (hs9 : sc ≤ 9) {b off m cap : Nat} (hm : 0 < m) (l0 : List UInt8) (hl0 : l0.length ≤ 1000000) (hcell : w.cell? ⟨b, off, none⟩ = some (strV l0)) (hT : La w) (vs : List Nat) {n : Nat} {zn : Int} (hn : vs.length = n) (hzn : Hid (zn = (n : Int))) (hnc : n ≤ c)
  (hv : ∀ (k v : Nat), vs[k]? = some v → (blank (part (k * wd) (k * wd + wd) l0)).length ≤ 18 ∧ asc (blank (part (k * wd) (k * wd + wd) l0)) = true ∧ atOK (blank (part (k * wd) (k * wd + wd) l0)) = true ∧ valueP ⟨c, wd, p, sc⟩ (blank (part (k * wd) (k * wd + wd) l0)) = some v) :
  Calls Tryz.prog 26 #[.slice (some ⟨b, off, none⟩) m cap, .agg #[.int .i64 (c : Int), .int .i64 (wd : Int), .int .i64 (p : Int), .int .i64 (sc : Int)], .int .i64 zn] w fun e w' => ∃ v, e = .returned (.tuple #[v, .int .i64 (-1)]) ∧ Fr [] w w' ∧ w'.ownsRow w.heap.size 25 1 v n (vs.map uV) := by
 subst hn
 rw [hzn.out]
 have HCELL := hid hcell
 have HV := hid hv
 have HT0 := hid hT
 have H := (Hp.start [] w).newRow 1 (e := 25) (sz := 1)
 clear hcell hv hzn hT
 go_enter Tryz.func26, Tryz.ntmps26
 go_wp2_with (first | refine x_q H ?_ | refine x_cm (fun h => ?_) (fun h => ?_) | refine x_l H ?_ | refine x_e (ev_strLen rfl rfl) ?_ | (revert H; refine x_g ?_; (first | (have hh := g3; clear hh; intro g4 w1 hg hf H) | (have hh := g2; clear hh; intro g3 w1 hg hf H) | (have hh := g1; clear hh; intro g2 w1 hg hf H) | (have hh := g0; clear hh; intro g1 w1 hg hf H) | intro g0 w1 hg hf H); (first | replace hf := hf.kp | clear hf)) | (revert H; refine x_s ?_; intro w1 hf H; (first | replace hf := hf.kp | clear hf)) | (revert H; refine x_sF ?_; intro w1 hf H hk; clear hf hk))
 go_loopw [6, 14] (fun s6 s14 wr => ∃ (k : Nat) (q : Option Addr) (cp : Nat) (S : List Nat), s6 = .slice q k cp ∧ s14 = .int .i64 (k : Int) ∧ k ≤ vs.length ∧ Hp [] w wr [.obj 1 S (RowAt 25 1 (.slice q k cp) k ((vs.take k).map uV) S), .blk g0 [.int .i64 (c : Int), .int .i64 (wd : Int), .int .i64 (p : Int), .int .i64 (sc : Int)] 64]) (fun _ v _ => vs.length - (intOf v).toNat)
 case atStart => exact ⟨0, none, 0, [], rfl, rfl, Nat.zero_le _, H.arr (by repeat (first | exact Pm.nil _ | (apply Pm.cons; · (repeat first | exact Rm.here _ | apply Rm.there))))⟩
 case round =>
  clear H
  obtain ⟨k, q, cp, S, rfl, rfl, hk, H⟩ := hrel
  by_cases hlt : k < vs.length
  ·obtain ⟨v, hvk⟩ : ∃ v, vs[k]? = some v := ⟨_, List.getElem?_eq_getElem hlt⟩
   obtain ⟨h18, has, hat, hval⟩ := HV.out k v hvk
   have HT := hid (tk_snoc hvk)
   obtain ⟨r, hr⟩ : ∃ r, blank (part (k * wd) (k * wd + wd) l0) = r := ⟨_, rfl⟩
   rw [hr] at h18 has hat hval
   have HVAL := hid hval
   have HAS := hid has
   have HAT := hid hat
   have HR := hid hr
   clear hvk hval has hat hr
   go_wp2_with (first | refine x_q H ?_ | refine x_cm (fun h => ?_) (fun h => ?_) | refine x_l H ?_ | refine x_e (ev_strLen rfl rfl) ?_ | (revert H; refine x_g ?_; (first | (have hh := g3; clear hh; intro g4 w1 hg hf H) | (have hh := g2; clear hh; intro g3 w1 hg hf H) | (have hh := g1; clear hh; intro g2 w1 hg hf H) | (have hh := g0; clear hh; intro g1 w1 hg hf H) | intro g0 w1 hg hf H); (first | replace hf := hf.kp | clear hf)) | (revert H; refine x_s ?_; intro w1 hf H; (first | replace hf := hf.kp | clear hf)) | (revert H; refine x_sF ?_; intro w1 hf H hk; clear hf hk))
   (refine x_c H (field_any _ c wd k p sc (hid rfl) (hid rfl) (hid rfl) (by omega) hc hw hm l0 (by omega) (H.fr.cell HCELL.out (by simp)) HR) ?_; clear H; rintro e w1 ⟨rfl, hF⟩ H; clear hF)
   go_wp2_with (first | refine x_q H ?_ | refine x_cm (fun h => ?_) (fun h => ?_) | refine x_l H ?_ | refine x_e (ev_strLen rfl rfl) ?_ | (revert H; refine x_g ?_; (first | (have hh := g3; clear hh; intro g4 w1 hg hf H) | (have hh := g2; clear hh; intro g3 w1 hg hf H) | (have hh := g1; clear hh; intro g2 w1 hg hf H) | (have hh := g0; clear hh; intro g1 w1 hg hf H) | intro g0 w1 hg hf H); (first | replace hf := hf.kp | clear hf)) | (revert H; refine x_s ?_; intro w1 hf H; (first | replace hf := hf.kp | clear hf)) | (revert H; refine x_sF ?_; intro w1 hf H hk; clear hf hk))
   (refine x_c H (value_any _ c wd p sc hp9 hs9 r h18 HAS.out HAT.out (HT0.out.fr H.fr) HVAL) ?_; clear H; rintro e w1 ⟨rfl, hF⟩ H; clear hF)
   go_wp2_with (first | (refine is_blt (b := .append) rfl ?_; go_loud (refine wl_rw rfl (fun K hK => c_aprS H rfl rfl rfl 1 (H.rd (b := g1) (off := 0) (vs := [uV v]) List.prefix_rfl) rfl (by simp [Value.oneCell', uV]) (by omega) (by unfold maxLen; omega) (fun p1 c1 w1 S' hf H1 => hK _ _ ?_))); (clear hK K); (clear H; have H := H1; clear H1; (try dsimp only at H); (first | replace hf := hf.kp | clear hf)); (simp only [nrm, ↓reduceIte, Nat.reduceAdd])) | refine x_q H ?_ | refine x_cm (fun h => ?_) (fun h => ?_) | refine x_l H ?_ | refine x_e (ev_strLen rfl rfl) ?_ | (revert H; refine x_g ?_; (first | (have hh := g3; clear hh; intro g4 w1 hg hf H) | (have hh := g2; clear hh; intro g3 w1 hg hf H) | (have hh := g1; clear hh; intro g2 w1 hg hf H) | (have hh := g0; clear hh; intro g1 w1 hg hf H) | intro g0 w1 hg hf H); (first | replace hf := hf.kp | clear hf)) | (revert H; refine x_s ?_; intro w1 hf H; (first | replace hf := hf.kp | clear hf)) | (revert H; refine x_sF ?_; intro w1 hf H hk; clear hf hk))
   go_roundw
   case rel =>
    refine ⟨k + 1, _, _, S', rfl, rfl, by omega, ?_⟩
    rw [HT.out, List.map_append]
    exact H.arr (by repeat (first | exact Pm.nil _ | (apply Pm.cons; · (repeat first | exact Rm.here _ | apply Rm.there))))
   case measure => (simp [intOf]; try omega)
  ·obtain rfl : k = vs.length := by omega
   have HT := hid (List.take_length (l := vs))
   rw [HT.out] at H
   go_wp2_with (first | refine x_q H ?_ | refine x_cm (fun h => ?_) (fun h => ?_) | refine x_l H ?_ | refine x_e (ev_strLen rfl rfl) ?_ | (revert H; refine x_g ?_; (first | (have hh := g3; clear hh; intro g4 w1 hg hf H) | (have hh := g2; clear hh; intro g3 w1 hg hf H) | (have hh := g1; clear hh; intro g2 w1 hg hf H) | (have hh := g0; clear hh; intro g1 w1 hg hf H) | intro g0 w1 hg hf H); (first | replace hf := hf.kp | clear hf)) | (revert H; refine x_s ?_; intro w1 hf H; (first | replace hf := hf.kp | clear hf)) | (revert H; refine x_sF ?_; intro w1 hf H hk; clear hf hk))
   go_ret2
   exact ⟨_, rfl, H.fr, (H.rowo 1).owns (fun x hx => (H.home 1 x hx).resolve_left (by simp))⟩
theorem mul64_one (w : World) : Calls Tryz.prog 155 #[.int .u64 1, .int .u64 1] w fun e w' => e = .returned (.tuple #[.int .u64 0, .int .u64 1]) ∧ Fr [] w w' := by
 have H := Hp.start [] w
 go_enter Tryz.func155, Tryz.ntmps155
 go_wp2_with (first | refine x_q H ?_ | refine x_cm (fun h => ?_) (fun h => ?_) | refine x_l H ?_ | refine x_e (ev_strLen rfl rfl) ?_ | (revert H; refine x_g ?_; (first | (have hh := g3; clear hh; intro g4 w1 hg hf H) | (have hh := g2; clear hh; intro g3 w1 hg hf H) | (have hh := g1; clear hh; intro g2 w1 hg hf H) | (have hh := g0; clear hh; intro g1 w1 hg hf H) | intro g0 w1 hg hf H); (first | replace hf := hf.kp | clear hf)) | (revert H; refine x_s ?_; intro w1 hf H; (first | replace hf := hf.kp | clear hf)) | (revert H; refine x_sF ?_; intro w1 hf H hk; clear hf hk))
 go_ret2
 exact ⟨rfl, H.fr⟩
theorem mul_one' (w : World) : Calls Tryz.prog 113 #[.int .u64 1, .int .u64 1] w fun e w' => e = .returned (.tuple #[.int .u64 0, .int .u64 1]) ∧ Fr [] w w' := by
 have H := Hp.start [] w
 go_enter Tryz.func113, Tryz.ntmps113
 go_wp2_with (first | refine x_q H ?_ | refine x_cm (fun h => ?_) (fun h => ?_) | refine x_l H ?_ | refine x_e (ev_strLen rfl rfl) ?_ | (revert H; refine x_g ?_; (first | (have hh := g3; clear hh; intro g4 w1 hg hf H) | (have hh := g2; clear hh; intro g3 w1 hg hf H) | (have hh := g1; clear hh; intro g2 w1 hg hf H) | (have hh := g0; clear hh; intro g1 w1 hg hf H) | intro g0 w1 hg hf H); (first | replace hf := hf.kp | clear hf)) | (revert H; refine x_s ?_; intro w1 hf H; (first | replace hf := hf.kp | clear hf)) | (revert H; refine x_sF ?_; intro w1 hf H hk; clear hf hk))
 (refine x_c H (mul64_one _) ?_; clear H; rintro e w1 ⟨rfl, hF⟩ H; clear hF)
 go_wp2_with (first | refine x_q H ?_ | refine x_cm (fun h => ?_) (fun h => ?_) | refine x_l H ?_ | refine x_e (ev_strLen rfl rfl) ?_ | (revert H; refine x_g ?_; (first | (have hh := g3; clear hh; intro g4 w1 hg hf H) | (have hh := g2; clear hh; intro g3 w1 hg hf H) | (have hh := g1; clear hh; intro g2 w1 hg hf H) | (have hh := g0; clear hh; intro g1 w1 hg hf H) | intro g0 w1 hg hf H); (first | replace hf := hf.kp | clear hf)) | (revert H; refine x_s ?_; intro w1 hf H; (first | replace hf := hf.kp | clear hf)) | (revert H; refine x_sF ?_; intro w1 hf H hk; clear hf hk))
 go_ret2
 exact ⟨rfl, H.fr⟩
theorem repeat_one (w : World) {g : Nat} {x : Int} (hr : Rd w (.slice (some ⟨g, 0, none⟩) 1 1) 1 [.int .u64 x]) : Calls Tryz.prog 69 #[.slice (some ⟨g, 0, none⟩) 1 1, .int .i64 1] w fun e w' => ∃ v, e = .returned v ∧ Fr [] w w' := by
 have HR := hid hr
 clear hr
 have H := Hp.start [] w
 go_enter Tryz.func69, Tryz.ntmps69
 go_wp2_with (first | refine x_q H ?_ | refine x_cm (fun h => ?_) (fun h => ?_) | refine x_l H ?_ | refine x_e (ev_strLen rfl rfl) ?_ | (revert H; refine x_g ?_; (first | (have hh := g3; clear hh; intro g4 w1 hg hf H) | (have hh := g2; clear hh; intro g3 w1 hg hf H) | (have hh := g1; clear hh; intro g2 w1 hg hf H) | (have hh := g0; clear hh; intro g1 w1 hg hf H) | intro g0 w1 hg hf H); (first | replace hf := hf.kp | clear hf)) | (revert H; refine x_s ?_; intro w1 hf H; (first | replace hf := hf.kp | clear hf)) | (revert H; refine x_sF ?_; intro w1 hf H hk; clear hf hk))
 (refine x_c H (mul_one' _) ?_; clear H; rintro e w1 ⟨rfl, hF⟩ H; clear hF)
 go_wp2_with (first | (refine is_blt (b := .copy) rfl ?_; go_loud (refine wl_rw rfl (fun K hK => c_cp H rfl rfl rfl (show 1 = min 1 1 by decide) (HR.out.fr H.fr (by simp)) rfl (by simp [Value.oneCell']) (by simp) (fun w1 hf H1 => hK _ _ ?_))); (clear hK K); (clear H; have H := H1; clear H1; (try dsimp only at H); (first | replace hf := hf.kp | clear hf)); (simp only [nrm, ↓reduceIte, Nat.reduceAdd])) | refine x_q H ?_ | refine x_cm (fun h => ?_) (fun h => ?_) | refine x_l H ?_ | refine x_e (ev_strLen rfl rfl) ?_ | (revert H; refine x_g ?_; (first | (have hh := g3; clear hh; intro g4 w1 hg hf H) | (have hh := g2; clear hh; intro g3 w1 hg hf H) | (have hh := g1; clear hh; intro g2 w1 hg hf H) | (have hh := g0; clear hh; intro g1 w1 hg hf H) | intro g0 w1 hg hf H); (first | replace hf := hf.kp | clear hf)) | (revert H; refine x_s ?_; intro w1 hf H; (first | replace hf := hf.kp | clear hf)) | (revert H; refine x_sF ?_; intro w1 hf H hk; clear hf hk))
 go_loopw [8] (fun s8 wr => s8 = .int .i64 1 ∧ Hp [] w wr []) (fun _ _ => 0)
 case atStart => exact ⟨rfl, H.arr (by repeat (first | exact Pm.nil _ | (apply Pm.cons; · (repeat first | exact Rm.here _ | apply Rm.there))))⟩
 case round =>
  clear H
  obtain ⟨rfl, H⟩ := hrel
  go_wp2_with (first | refine x_q H ?_ | refine x_cm (fun h => ?_) (fun h => ?_) | refine x_l H ?_ | refine x_e (ev_strLen rfl rfl) ?_ | (revert H; refine x_g ?_; (first | (have hh := g3; clear hh; intro g4 w1 hg hf H) | (have hh := g2; clear hh; intro g3 w1 hg hf H) | (have hh := g1; clear hh; intro g2 w1 hg hf H) | (have hh := g0; clear hh; intro g1 w1 hg hf H) | intro g0 w1 hg hf H); (first | replace hf := hf.kp | clear hf)) | (revert H; refine x_s ?_; intro w1 hf H; (first | replace hf := hf.kp | clear hf)) | (revert H; refine x_sF ?_; intro w1 hf H hk; clear hf hk))
  go_ret
  exact ⟨_, rfl, H.fr⟩
theorem ones_any (w : World) : Calls Tryz.prog 24 #[.int .i64 1] w fun e w' => ∃ v, e = .returned v ∧ Fr [] w w' := by
 have H := Hp.start [] w
 go_enter Tryz.func24, Tryz.ntmps24
 go_wp2_with (first | refine x_q H ?_ | refine x_cm (fun h => ?_) (fun h => ?_) | refine x_l H ?_ | refine x_e (ev_strLen rfl rfl) ?_ | (revert H; refine x_g ?_; (first | (have hh := g3; clear hh; intro g4 w1 hg hf H) | (have hh := g2; clear hh; intro g3 w1 hg hf H) | (have hh := g1; clear hh; intro g2 w1 hg hf H) | (have hh := g0; clear hh; intro g1 w1 hg hf H) | intro g0 w1 hg hf H); (first | replace hf := hf.kp | clear hf)) | (revert H; refine x_s ?_; intro w1 hf H; (first | replace hf := hf.kp | clear hf)) | (revert H; refine x_sF ?_; intro w1 hf H hk; clear hf hk))
 refine x_c H (repeat_one _ (H.rd (b := g0) (off := 0) List.prefix_rfl)) ?_
 clear H
 rintro e w1 ⟨v, rfl, hF⟩ H
 clear hF
 go_wp2_with (first | refine x_q H ?_ | refine x_cm (fun h => ?_) (fun h => ?_) | refine x_l H ?_ | refine x_e (ev_strLen rfl rfl) ?_ | (revert H; refine x_g ?_; (first | (have hh := g3; clear hh; intro g4 w1 hg hf H) | (have hh := g2; clear hh; intro g3 w1 hg hf H) | (have hh := g1; clear hh; intro g2 w1 hg hf H) | (have hh := g0; clear hh; intro g1 w1 hg hf H) | intro g0 w1 hg hf H); (first | replace hf := hf.kp | clear hf)) | (revert H; refine x_s ?_; intro w1 hf H; (first | replace hf := hf.kp | clear hf)) | (revert H; refine x_sF ?_; intro w1 hf H hk; clear hf hk))
 go_ret
 exact ⟨_, rfl, H.fr⟩
end Go.Proofs.YtbiohhmpclnpgaaGreatDoor
