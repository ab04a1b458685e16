import Derived.Test.YtbiohhmpclnpgaaGreatDoorXNb6
namespace Go.Proofs.YtbiohhmpclnpgaaGreatDoor
open Go.RowKit
set_option linter.unusedSimpArgs false
set_option linter.unusedVariables false
set_option maxHeartbeats 8000000
set_option maxRecDepth 100000
attribute [local irreducible] wpList Code.wp Plan.wp
theorem counted_any (w : World) (s ls : List UInt8) (hs : s.length ≤ 4000000) (hl : ls.length ≤ 10) (ha : asc s = true) (hb : asc ls = true) :
  Calls Tryz.prog 106 #[strV s, strV ls] w fun e w' => ∃ (c : Nat) (r : List UInt8) (b : Bool), e = .returned (.tuple #[.int .i64 (c : Int), strV r, .bool b]) ∧ Fr [] w w' ∧ (b = true → countedP s ls = some (c, r)) ∧ (b = false → countedP s ls = none) ∧ r.length ≤ s.length ∧ asc r = true := by
 have hge := Lib.indexAny_ge ls s
 have hlt := indexAny_lt ls s
 have HA := hid ha
 have HB := hid hb
 obtain ⟨z, hz⟩ : ∃ z, Lib.indexAny s ls = z := ⟨_, rfl⟩
 rw [hz] at hge hlt
 have H := Hp.start [] w
 rcases Int.lt_trichotomy z 0 with h0 | h0 | h0
 ·obtain rfl : z = -1 := by omega
  have HZ := hid hz
  have HP := hid (show countedP s ls = none by unfold countedP; rw [hz]; rfl)
  clear hz hlt hge h0 ha hb
  go_enter Tryz.func106, Tryz.ntmps106
  go_wp2_with (first | refine x_q H ?_ | refine x_cm (fun h => ?_) (fun h => ?_) | refine x_l H ?_ | refine x_e (ev_strLen rfl rfl) ?_ | (revert H; refine x_g ?_; (first | (have hh := g3; clear hh; intro g4 w1 hg hf H) | (have hh := g2; clear hh; intro g3 w1 hg hf H) | (have hh := g1; clear hh; intro g2 w1 hg hf H) | (have hh := g0; clear hh; intro g1 w1 hg hf H) | intro g0 w1 hg hf H); (first | replace hf := hf.kp | clear hf)) | (revert H; refine x_s ?_; intro w1 hf H; (first | replace hf := hf.kp | clear hf)) | (revert H; refine x_sF ?_; intro w1 hf H hk; clear hf hk))
  (refine x_c H (indexAny_any _ s ls hs hl HA.out HB.out HZ) ?_; clear H; rintro e w1 ⟨rfl, hF⟩ H; clear hF)
  go_wp2_with (first | refine x_q H ?_ | refine x_cm (fun h => ?_) (fun h => ?_) | refine x_l H ?_ | refine x_e (ev_strLen rfl rfl) ?_ | (revert H; refine x_g ?_; (first | (have hh := g3; clear hh; intro g4 w1 hg hf H) | (have hh := g2; clear hh; intro g3 w1 hg hf H) | (have hh := g1; clear hh; intro g2 w1 hg hf H) | (have hh := g0; clear hh; intro g1 w1 hg hf H) | intro g0 w1 hg hf H); (first | replace hf := hf.kp | clear hf)) | (revert H; refine x_s ?_; intro w1 hf H; (first | replace hf := hf.kp | clear hf)) | (revert H; refine x_sF ?_; intro w1 hf H hk; clear hf hk))
  go_ret3
  exact ⟨0, [], false, rfl, H.fr, (fun h => by simp at h), (fun _ => HP.out), Nat.zero_le _, rfl⟩
 ·subst h0
  have hs1 : 0 < s.length := by have := hlt (Int.le_refl _); omega
  have HZ := hid hz
  have HP := hid (show countedP s ls = some (1, s.drop 1) by unfold countedP; rw [hz]; rfl)
  have HR := hid (show s.drop (1 : Int).toNat = s.drop 1 from rfl)
  clear hz hlt hge ha hb
  go_enter Tryz.func106, Tryz.ntmps106
  go_wp2_with (first | refine x_q H ?_ | refine x_cm (fun h => ?_) (fun h => ?_) | refine x_l H ?_ | refine x_e (ev_strLen rfl rfl) ?_ | (revert H; refine x_g ?_; (first | (have hh := g3; clear hh; intro g4 w1 hg hf H) | (have hh := g2; clear hh; intro g3 w1 hg hf H) | (have hh := g1; clear hh; intro g2 w1 hg hf H) | (have hh := g0; clear hh; intro g1 w1 hg hf H) | intro g0 w1 hg hf H); (first | replace hf := hf.kp | clear hf)) | (revert H; refine x_s ?_; intro w1 hf H; (first | replace hf := hf.kp | clear hf)) | (revert H; refine x_sF ?_; intro w1 hf H hk; clear hf hk))
  (refine x_c H (indexAny_any _ s ls hs hl HA.out HB.out HZ) ?_; clear H; rintro e w1 ⟨rfl, hF⟩ H; clear hF)
  go_wp2_with (first | refine x_q H ?_ | refine x_cm (fun h => ?_) (fun h => ?_) | refine x_l H ?_ | refine x_e (ev_strLen rfl rfl) ?_ | (revert H; refine x_g ?_; (first | (have hh := g3; clear hh; intro g4 w1 hg hf H) | (have hh := g2; clear hh; intro g3 w1 hg hf H) | (have hh := g1; clear hh; intro g2 w1 hg hf H) | (have hh := g0; clear hh; intro g1 w1 hg hf H) | intro g0 w1 hg hf H); (first | replace hf := hf.kp | clear hf)) | (revert H; refine x_s ?_; intro w1 hf H; (first | replace hf := hf.kp | clear hf)) | (revert H; refine x_sF ?_; intro w1 hf H hk; clear hf hk))
  (revert H; refine w_p 5 (.st 0 (.st 1 (.st 2 (.st 3 (.st 4 .done))))) ?_; intro w1 H)
  refine p_q ?_
  (refine p_e rfl (fun w H => ev_strTail rfl rfl rfl HR) ?_)
  iterate 3 refine p_q ?_
  (refine pl_done ?_)
  go_wp2_with (first | refine x_q H ?_ | refine x_cm (fun h => ?_) (fun h => ?_) | refine x_l H ?_ | refine x_e (ev_strLen rfl rfl) ?_ | (revert H; refine x_g ?_; (first | (have hh := g3; clear hh; intro g4 w1 hg hf H) | (have hh := g2; clear hh; intro g3 w1 hg hf H) | (have hh := g1; clear hh; intro g2 w1 hg hf H) | (have hh := g0; clear hh; intro g1 w1 hg hf H) | intro g0 w1 hg hf H); (first | replace hf := hf.kp | clear hf)) | (revert H; refine x_s ?_; intro w1 hf H; (first | replace hf := hf.kp | clear hf)) | (revert H; refine x_sF ?_; intro w1 hf H hk; clear hf hk))
  go_ret3
  exact ⟨1, s.drop 1, true, rfl, H.fr, (fun _ => HP.out), (fun h => by simp at h), by rw [List.length_drop]; omega, asc_drop HA.out 1⟩
 ·obtain ⟨k, rfl⟩ := Int.eq_ofNat_of_zero_le (Int.le_of_lt h0)
  have hk : k < s.length := by have := hlt (Int.le_of_lt h0); omega
  have hk0 : 0 < k := by omega
  have HZ := hid hz
  have HP := hid (show countedP s ls = (shortP (s.take k)).map fun n => (n, s.drop (k + 1)) by
   unfold countedP
   rw [hz, if_neg (by omega), if_neg (by omega), Int.toNat_natCast])
  have HR1 := hid (show s.take ((k : Int)).toNat = s.take k by rw [Int.toNat_natCast])
  have HR2 := hid (show s.drop ((k : Int) + 1).toNat = s.drop (k + 1) by rw [show ((k : Int) + 1).toNat = k + 1 by omega])
  clear hz hlt hge h0 ha hb
  go_enter Tryz.func106, Tryz.ntmps106
  go_wp2_with (first | refine x_q H ?_ | refine x_cm (fun h => ?_) (fun h => ?_) | refine x_l H ?_ | refine x_e (ev_strLen rfl rfl) ?_ | (revert H; refine x_g ?_; (first | (have hh := g3; clear hh; intro g4 w1 hg hf H) | (have hh := g2; clear hh; intro g3 w1 hg hf H) | (have hh := g1; clear hh; intro g2 w1 hg hf H) | (have hh := g0; clear hh; intro g1 w1 hg hf H) | intro g0 w1 hg hf H); (first | replace hf := hf.kp | clear hf)) | (revert H; refine x_s ?_; intro w1 hf H; (first | replace hf := hf.kp | clear hf)) | (revert H; refine x_sF ?_; intro w1 hf H hk; clear hf hk))
  (refine x_c H (indexAny_any _ s ls hs hl HA.out HB.out HZ) ?_; clear H; rintro e w1 ⟨rfl, hF⟩ H; clear hF)
  go_wp2_with (first | refine x_e (ev_strHead rfl rfl rfl HR1) ?_ | refine x_q H ?_ | refine x_cm (fun h => ?_) (fun h => ?_) | refine x_l H ?_ | refine x_e (ev_strLen rfl rfl) ?_ | (revert H; refine x_g ?_; (first | (have hh := g3; clear hh; intro g4 w1 hg hf H) | (have hh := g2; clear hh; intro g3 w1 hg hf H) | (have hh := g1; clear hh; intro g2 w1 hg hf H) | (have hh := g0; clear hh; intro g1 w1 hg hf H) | intro g0 w1 hg hf H); (first | replace hf := hf.kp | clear hf)) | (revert H; refine x_s ?_; intro w1 hf H; (first | replace hf := hf.kp | clear hf)) | (revert H; refine x_sF ?_; intro w1 hf H hk; clear hf hk))
  (refine x_c H (shortB_any _ (s.take k) (by rw [List.length_take]; omega)) ?_; clear H; rintro e w1 ⟨n, b, rfl, hF, ht, hn⟩ H; clear hF)
  have HTR := hid ht
  have HNO := hid hn
  clear ht hn
  go_wp2_with (first | refine x_q H ?_ | refine x_cm (fun h => ?_) (fun h => ?_) | refine x_l H ?_ | refine x_e (ev_strLen rfl rfl) ?_ | (revert H; refine x_g ?_; (first | (have hh := g3; clear hh; intro g4 w1 hg hf H) | (have hh := g2; clear hh; intro g3 w1 hg hf H) | (have hh := g1; clear hh; intro g2 w1 hg hf H) | (have hh := g0; clear hh; intro g1 w1 hg hf H) | intro g0 w1 hg hf H); (first | replace hf := hf.kp | clear hf)) | (revert H; refine x_s ?_; intro w1 hf H; (first | replace hf := hf.kp | clear hf)) | (revert H; refine x_sF ?_; intro w1 hf H hk; clear hf hk))
  (revert H; refine w_p 9 (.st 0 (.st 1 (.st 2 (.st 3 (.st 4 (.st 5 (.st 6 (.st 7 (.st 8 .done))))))))) ?_; intro w1 H)
  iterate 4 refine p_q ?_
  (refine p_e rfl (fun w H => ev_strTail rfl rfl rfl HR2) ?_)
  iterate 4 refine p_q ?_
  (refine pl_done ?_)
  go_wp2_with (first | refine x_q H ?_ | refine x_cm (fun h => ?_) (fun h => ?_) | refine x_l H ?_ | refine x_e (ev_strLen rfl rfl) ?_ | (revert H; refine x_g ?_; (first | (have hh := g3; clear hh; intro g4 w1 hg hf H) | (have hh := g2; clear hh; intro g3 w1 hg hf H) | (have hh := g1; clear hh; intro g2 w1 hg hf H) | (have hh := g0; clear hh; intro g1 w1 hg hf H) | intro g0 w1 hg hf H); (first | replace hf := hf.kp | clear hf)) | (revert H; refine x_s ?_; intro w1 hf H; (first | replace hf := hf.kp | clear hf)) | (revert H; refine x_sF ?_; intro w1 hf H hk; clear hf hk))
  go_ret3
  exact ⟨n, s.drop (k + 1), b, rfl, H.fr, (fun h => by rw [HP.out, HTR.out h]; rfl), (fun h => by rw [HP.out, HNO.out h]; rfl), by rw [List.length_drop]; omega, asc_drop HA.out _⟩
theorem whole_parts {s : List UInt8} {f : Lay} (h : wholeP s = some f) : ∃ r t, innerP s = some r ∧ countedP r [73] = some (f.count, t) ∧ shortP t = some f.width ∧ soundP ⟨f.count, f.width, 0, 0⟩ = true ∧ f = ⟨f.count, f.width, 0, 0⟩ := by
 unfold wholeP at h
 split at h
 ·cases h
 ·rename_i r hr
  split at h
  ·cases h
  ·rename_i c t hc
   split at h
   ·cases h
   ·rename_i wd hw
    split at h
    ·rename_i hs
     cases h
     exact ⟨r, t, hr, hc, hw, hs, rfl⟩
    ·cases h
theorem whole_any (w : World) (s : List UInt8) (hs : s.length ≤ 4000000) (ha : asc s = true) {c wd : Nat} (hf : Hid (wholeP s = some ⟨c, wd, 0, 0⟩)) :
  Calls Tryz.prog 64 #[strV s] w fun e w' => e = .returned (.tuple #[.agg #[.int .i64 (c : Int), .int .i64 (wd : Int), .int .i64 0, .int .i64 0], .bool true]) ∧ Fr [] w w' := by
 obtain ⟨r, t, h1, h2, h3, h4, _⟩ := whole_parts hf.out
 simp only at h2 h3 h4
 have hc9 := counted_le h2
 have hw9 := short_le h3
 have har : asc r = true := asc_inner ha h1
 have H1 := hid h1; have H2 := hid h2; have H3 := hid h3; have H4 := hid h4; have HAR := hid har
 clear h1 h2 h3 h4 har ha hf
 have H := Hp.start [] w
 go_enter Tryz.func64, Tryz.ntmps64
 go_wp2_with (first | refine x_q H ?_ | refine x_cm (fun h => ?_) (fun h => ?_) | refine x_l H ?_ | refine x_e (ev_strLen rfl rfl) ?_ | (revert H; refine x_g ?_; (first | (have hh := g3; clear hh; intro g4 w1 hg hf H) | (have hh := g2; clear hh; intro g3 w1 hg hf H) | (have hh := g1; clear hh; intro g2 w1 hg hf H) | (have hh := g0; clear hh; intro g1 w1 hg hf H) | intro g0 w1 hg hf H); (first | replace hf := hf.kp | clear hf)) | (revert H; refine x_s ?_; intro w1 hf H; (first | replace hf := hf.kp | clear hf)) | (revert H; refine x_sF ?_; intro w1 hf H hk; clear hf hk))
 (refine x_c H (inner_any _ s hs) ?_; clear H; rintro e w1 ⟨r', b', rfl, hF, ht, hn, hrl⟩ H; clear hF)
 obtain rfl : b' = true := by
  cases b' with
  | true => rfl
  | false => have := hn rfl; rw [H1.out] at this; cases this
 obtain rfl : r' = r := by have := ht rfl; rw [H1.out] at this; cases this; rfl
 clear ht hn
 go_wp2_with (first | refine x_q H ?_ | refine x_cm (fun h => ?_) (fun h => ?_) | refine x_l H ?_ | refine x_e (ev_strLen rfl rfl) ?_ | (revert H; refine x_g ?_; (first | (have hh := g3; clear hh; intro g4 w1 hg hf H) | (have hh := g2; clear hh; intro g3 w1 hg hf H) | (have hh := g1; clear hh; intro g2 w1 hg hf H) | (have hh := g0; clear hh; intro g1 w1 hg hf H) | intro g0 w1 hg hf H); (first | replace hf := hf.kp | clear hf)) | (revert H; refine x_s ?_; intro w1 hf H; (first | replace hf := hf.kp | clear hf)) | (revert H; refine x_sF ?_; intro w1 hf H hk; clear hf hk))
 (refine x_c H (counted_any _ r' [73] (by omega) (by decide) HAR.out (by decide)) ?_; clear H; rintro e w1 ⟨c', t', b', rfl, hF, ht, hn, htl, hta⟩ H; clear hF)
 obtain rfl : b' = true := by
  cases b' with
  | true => rfl
  | false => have := hn rfl; rw [H2.out] at this; cases this
 obtain ⟨rfl, rfl⟩ : c' = c ∧ t' = t := by have := ht rfl; rw [H2.out] at this; cases this; exact ⟨rfl, rfl⟩
 clear ht hn hta
 go_wp2_with (first | refine x_q H ?_ | refine x_cm (fun h => ?_) (fun h => ?_) | refine x_l H ?_ | refine x_e (ev_strLen rfl rfl) ?_ | (revert H; refine x_g ?_; (first | (have hh := g3; clear hh; intro g4 w1 hg hf H) | (have hh := g2; clear hh; intro g3 w1 hg hf H) | (have hh := g1; clear hh; intro g2 w1 hg hf H) | (have hh := g0; clear hh; intro g1 w1 hg hf H) | intro g0 w1 hg hf H); (first | replace hf := hf.kp | clear hf)) | (revert H; refine x_s ?_; intro w1 hf H; (first | replace hf := hf.kp | clear hf)) | (revert H; refine x_sF ?_; intro w1 hf H hk; clear hf hk))
 (refine x_c H (shortB_any _ t' (by omega)) ?_; clear H; rintro e w1 ⟨n, b', rfl, hF, ht, hn⟩ H; clear hF)
 obtain rfl : b' = true := by
  cases b' with
  | true => rfl
  | false => have := hn rfl; rw [H3.out] at this; cases this
 obtain rfl : n = wd := by have := ht rfl; rw [H3.out] at this; cases this; rfl
 clear ht hn
 go_wp2_with (first | refine x_q H ?_ | refine x_cm (fun h => ?_) (fun h => ?_) | refine x_l H ?_ | refine x_e (ev_strLen rfl rfl) ?_ | (revert H; refine x_g ?_; (first | (have hh := g3; clear hh; intro g4 w1 hg hf H) | (have hh := g2; clear hh; intro g3 w1 hg hf H) | (have hh := g1; clear hh; intro g2 w1 hg hf H) | (have hh := g0; clear hh; intro g1 w1 hg hf H) | intro g0 w1 hg hf H); (first | replace hf := hf.kp | clear hf)) | (revert H; refine x_s ?_; intro w1 hf H; (first | replace hf := hf.kp | clear hf)) | (revert H; refine x_sF ?_; intro w1 hf H hk; clear hf hk))
 (revert H; refine w_p 8 (.st 0 (.st 1 (.st 2 (.st 3 (.ld 4 (.st 5 (.ld 6 (.st 7 .done)))))))) ?_ (hs := (.cons_cons _ (List.nil_sublist _))); intro w1 H)
 iterate 3 refine p_q ?_
 (first | refine p_q ?_ | refine p_n ?_)
 (refine p_c H rfl rfl Tryz.func108 (sound_any _ c' n _ _ hc9 hw9 H4) ?_; clear H; rintro e w1 ⟨rfl, hF⟩ H; refine p_r ?_; clear hF)
 refine p_q ?_
 (revert H; refine p_sF ?_; intro w1 hf H hk; clear hf hk)
 refine p_q ?_
 (refine pl_done ?_)
 go_wp2_with (first | refine x_q H ?_ | refine x_cm (fun h => ?_) (fun h => ?_) | refine x_l H ?_ | refine x_e (ev_strLen rfl rfl) ?_ | (revert H; refine x_g ?_; (first | (have hh := g3; clear hh; intro g4 w1 hg hf H) | (have hh := g2; clear hh; intro g3 w1 hg hf H) | (have hh := g1; clear hh; intro g2 w1 hg hf H) | (have hh := g0; clear hh; intro g1 w1 hg hf H) | intro g0 w1 hg hf H); (first | replace hf := hf.kp | clear hf)) | (revert H; refine x_s ?_; intro w1 hf H; (first | replace hf := hf.kp | clear hf)) | (revert H; refine x_sF ?_; intro w1 hf H hk; clear hf hk))
 refine c_postCT H rfl rfl rfl rfl ?_
 exact ⟨rfl, H.fr⟩
end Go.Proofs.YtbiohhmpclnpgaaGreatDoor
