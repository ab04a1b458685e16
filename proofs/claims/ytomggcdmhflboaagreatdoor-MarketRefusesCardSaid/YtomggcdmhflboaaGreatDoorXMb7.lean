import Derived.Test.YtomggcdmhflboaaGreatDoorXMc8
import Derived.Test.YtomggcdmhflboaaGreatDoorXMf1
import Derived.Test.YtomggcdmhflboaaGreatDoorXMc1
namespace Go.Proofs.YtomggcdmhflboaaGreatDoor
open Go.RowKit
set_option linter.unusedSimpArgs false
set_option linter.unusedVariables false
set_option maxHeartbeats 16000000
set_option maxRecDepth 100000
attribute [local irreducible] wpList Code.wp Plan.wp
def coE (h : Hd) (m n : Nat) (ws : List (List UInt8)) : Option En :=
 match posOf h m n ws with
 | none => none
 | some p => if h.field = 2 then some (p.1, p.2, 4607182418800017408) else (fval h.field (ws.getD 2 [])).map fun f => (p.1, p.2, f)
def EnPost (o : Option En) (e : Ending) : Prop := ∃ (x : En) (b : Bool), e = .returned (.tuple #[.agg (eC x).toArray, .bool b]) ∧ b = o.isSome ∧ (∀ y, o = some y → y = x) ∧ x.2.2 < 18446744073709551616
theorem dgts_le {x : List UInt8} {a : Nat} {ok : Bool} (h : dgts x = (a, ok)) : a ≤ 1073741824 := by
 unfold dgts at h
 split at h
 ·cases h; omega
 ·cases h; omega
theorem pos_eq {h : Hd} {m n : Nat} {ws : List (List UInt8)} {a0 a1 : Nat} {ok0 ok1 : Bool} (hl : ws.length = if h.field = 2 then 2 else 3) (h0 : dgts (ws.getD 0 []) = (a0, ok0)) (h1 : dgts (ws.getD 1 []) = (a1, ok1)) (hm : m ≤ 200) (hn : n ≤ 200) :
  posOf h m n ws = if ok0 = true ∧ ok1 = true ∧ 1 ≤ a0 ∧ a0 ≤ m ∧ 1 ≤ a1 ∧ a1 ≤ n ∧ may h.sym a0 a1 = true then some (a0 - 1, a1 - 1) else none := by
 have e0 : isNum (ws.getD 0 []) = ok0 := by rw [← dgts_num, h0]
 have e1 : isNum (ws.getD 1 []) = ok1 := by rw [← dgts_num, h1]
 unfold posOf
 simp only []
 rw [e0, e1]
 cases ok0
 ·rw [if_neg (fun k => by cases k.2.1), if_neg (fun k => by cases k.1)]
 ·cases ok1
  ·rw [if_neg (fun k => by cases k.2.2.1), if_neg (fun k => by cases k.2.1)]
  ·have f0 := num_min e0
   have f1 := num_min e1
   rw [h0] at f0
   rw [h1] at f1
   simp only at f0 f1
   by_cases g : a0 ≤ m ∧ a1 ≤ n
   ·have g0 : num (ws.getD 0 []) = a0 := by omega
    have g1 : num (ws.getD 1 []) = a1 := by omega
    rw [g0, g1]
    simp only [hl, true_and]
   ·rw [if_neg (fun k => g ⟨by omega, by omega⟩), if_neg (fun k => g ⟨k.2.2.2.1, k.2.2.2.2.2.1⟩)]
set_option maxHeartbeats 32000000 in
theorem entry_any (w : World) (h : Hd) (hs2 : h.sym ≤ 2) (hf2 : h.field ≤ 2) (m n : Nat) (hm : m ≤ 200) (hn : n ≤ 200) {q c : Nat} {ws : List (List UInt8)} (hq : w.heap[q]? = some (.cells (ws.map strV).toArray 9 (0, 0))) (hwn : ws.length ≤ 2000001) (hwz : ∀ x ∈ ws, x.length ≤ 2000000) (hT : La w) {o : Option En} (ho : Hid (coE h m n ws = o)) :
  Calls Tryz.prog 48 #[.slice (some ⟨q, 0, none⟩) ws.length c, fileV h, .int .i64 (m : Int), .int .i64 (n : Int)] w fun e w' => Fr [] w w' ∧ EnPost o e := by
 have HT := hid hT
 have HWZ := hid hwz
 have H := (Hp.start [] w).pushRng (b := q) (off := 0) (cs := ws.map strV) (lt_of_get hq) (by simp) (by
  intro j u hj
  simp only [World.cell?, hq]
  simpa using hj)
 clear hq hT hwz
 obtain ⟨arr, field, sym⟩ := h
 simp only at hs2 hf2
 unfold fileV
 by_cases h2 : field = 2
 ·subst h2
  by_cases hl : ws.length = 2
  ·obtain ⟨x, y, rfl⟩ := two_of hl
   obtain ⟨a0, ok0, h0⟩ : ∃ a ok, dgts x = (a, ok) := ⟨_, _, rfl⟩
   obtain ⟨a1, ok1, h1⟩ : ∃ a ok, dgts y = (a, ok) := ⟨_, _, rfl⟩
   have HX := hid h0
   have HY := hid h1
   have HP := hid (pos_eq (h := ⟨arr, 2, sym⟩) (ws := [x, y]) rfl h0 h1 hm hn)
   have hxl := HWZ.out x (by simp)
   have hyl := HWZ.out y (by simp)
   have ha0 : a0 ≤ 1073741824 := dgts_le h0
   have ha1 : a1 ≤ 1073741824 := dgts_le h1
   clear h0 h1 hl hwn
   go_enter Tryz.func48, Tryz.ntmps48
   go_wp2_with (first | refine x_q H ?_ | refine x_cm (fun h => ?_) (fun h => ?_) | refine x_l H ?_ | refine x_e (ev_strLen rfl rfl) ?_ | (revert H; (first | (refine x_g ?_; intro g1 w1 hg hf H) | (refine x_s ?_; intro w1 hf H) | (refine x_sF ?_; intro w1 hf H hk; clear hf hk)); (first | replace hf := hf.kp | clear hf)) )
   (refine x_c H (digits_any _ x (by omega) HX) ?_; clear H; rintro e w1 ⟨rfl, hF⟩ H; clear hF)
   go_wp2_with (first | refine x_q H ?_ | refine x_cm (fun h => ?_) (fun h => ?_) | refine x_l H ?_ | refine x_e (ev_strLen rfl rfl) ?_ | (revert H; (first | (refine x_g ?_; intro g1 w1 hg hf H) | (refine x_s ?_; intro w1 hf H) | (refine x_sF ?_; intro w1 hf H hk; clear hf hk)); (first | replace hf := hf.kp | clear hf)) )
   (refine x_c H (digits_any _ y (by omega) HY) ?_; clear H; rintro e w1 ⟨rfl, hF⟩ H; clear hF)
   cases ok0
   ·(have HO : Hid (o = none) := hid (by rw [← ho.out]; unfold coE; rw [HP.out, if_neg (fun k => by cases k.1)]); clear ho HP)
    go_wp2_with (first | refine x_q H ?_ | refine x_cm (fun h => ?_) (fun h => ?_) | refine x_l H ?_ | refine x_e (ev_strLen rfl rfl) ?_ | (revert H; (first | (refine x_g ?_; intro g1 w1 hg hf H) | (refine x_s ?_; intro w1 hf H) | (refine x_sF ?_; intro w1 hf H hk; clear hf hk)); (first | replace hf := hf.kp | clear hf)) )
    (refine c_postCT H rfl rfl rfl rfl ?_; exact ⟨H.fr, (0, 0, 0), false, rfl, (by rw [HO.out]; rfl), fun y h => (by rw [HO.out] at h; cases h), by decide⟩)
   cases ok1
   ·(have HO : Hid (o = none) := hid (by rw [← ho.out]; unfold coE; rw [HP.out, if_neg (fun k => by cases k.2.1)]); clear ho HP)
    go_wp2_with (first | refine x_q H ?_ | refine x_cm (fun h => ?_) (fun h => ?_) | refine x_l H ?_ | refine x_e (ev_strLen rfl rfl) ?_ | (revert H; (first | (refine x_g ?_; intro g1 w1 hg hf H) | (refine x_s ?_; intro w1 hf H) | (refine x_sF ?_; intro w1 hf H hk; clear hf hk)); (first | replace hf := hf.kp | clear hf)) )
    (refine c_postCT H rfl rfl rfl rfl ?_; exact ⟨H.fr, (0, 0, 0), false, rfl, (by rw [HO.out]; rfl), fun y h => (by rw [HO.out] at h; cases h), by decide⟩)
   by_cases b0 : 1 ≤ a0
   case neg =>
    (have HO : Hid (o = none) := hid (by rw [← ho.out]; unfold coE; rw [HP.out, if_neg (fun k => b0 k.2.2.1)]); clear ho HP)
    go_wp2_with (first | refine x_q H ?_ | refine x_cm (fun h => ?_) (fun h => ?_) | refine x_l H ?_ | refine x_e (ev_strLen rfl rfl) ?_ | (revert H; (first | (refine x_g ?_; intro g1 w1 hg hf H) | (refine x_s ?_; intro w1 hf H) | (refine x_sF ?_; intro w1 hf H hk; clear hf hk)); (first | replace hf := hf.kp | clear hf)) )
    (refine c_postCT H rfl rfl rfl rfl ?_; exact ⟨H.fr, (0, 0, 0), false, rfl, (by rw [HO.out]; rfl), fun y h => (by rw [HO.out] at h; cases h), by decide⟩)
   by_cases b1 : a0 ≤ m
   case neg =>
    (have HO : Hid (o = none) := hid (by rw [← ho.out]; unfold coE; rw [HP.out, if_neg (fun k => b1 k.2.2.2.1)]); clear ho HP)
    go_wp2_with (first | refine x_q H ?_ | refine x_cm (fun h => ?_) (fun h => ?_) | refine x_l H ?_ | refine x_e (ev_strLen rfl rfl) ?_ | (revert H; (first | (refine x_g ?_; intro g1 w1 hg hf H) | (refine x_s ?_; intro w1 hf H) | (refine x_sF ?_; intro w1 hf H hk; clear hf hk)); (first | replace hf := hf.kp | clear hf)) )
    (refine c_postCT H rfl rfl rfl rfl ?_; exact ⟨H.fr, (0, 0, 0), false, rfl, (by rw [HO.out]; rfl), fun y h => (by rw [HO.out] at h; cases h), by decide⟩)
   by_cases b2 : 1 ≤ a1
   case neg =>
    (have HO : Hid (o = none) := hid (by rw [← ho.out]; unfold coE; rw [HP.out, if_neg (fun k => b2 k.2.2.2.2.1)]); clear ho HP)
    go_wp2_with (first | refine x_q H ?_ | refine x_cm (fun h => ?_) (fun h => ?_) | refine x_l H ?_ | refine x_e (ev_strLen rfl rfl) ?_ | (revert H; (first | (refine x_g ?_; intro g1 w1 hg hf H) | (refine x_s ?_; intro w1 hf H) | (refine x_sF ?_; intro w1 hf H hk; clear hf hk)); (first | replace hf := hf.kp | clear hf)) )
    (refine c_postCT H rfl rfl rfl rfl ?_; exact ⟨H.fr, (0, 0, 0), false, rfl, (by rw [HO.out]; rfl), fun y h => (by rw [HO.out] at h; cases h), by decide⟩)
   by_cases b3 : a1 ≤ n
   case neg =>
    (have HO : Hid (o = none) := hid (by rw [← ho.out]; unfold coE; rw [HP.out, if_neg (fun k => b3 k.2.2.2.2.2.1)]); clear ho HP)
    go_wp2_with (first | refine x_q H ?_ | refine x_cm (fun h => ?_) (fun h => ?_) | refine x_l H ?_ | refine x_e (ev_strLen rfl rfl) ?_ | (revert H; (first | (refine x_g ?_; intro g1 w1 hg hf H) | (refine x_s ?_; intro w1 hf H) | (refine x_sF ?_; intro w1 hf H hk; clear hf hk)); (first | replace hf := hf.kp | clear hf)) )
    (refine c_postCT H rfl rfl rfl rfl ?_; exact ⟨H.fr, (0, 0, 0), false, rfl, (by rw [HO.out]; rfl), fun y h => (by rw [HO.out] at h; cases h), by decide⟩)
   obtain ⟨mb, hmb⟩ : ∃ b, may sym a0 a1 = b := ⟨_, rfl⟩
   have HB := hid hmb
   cases mb
   ·(have HO : Hid (o = none) := hid (by rw [← ho.out]; unfold coE; rw [HP.out, if_neg (fun k => by rw [hmb] at k; cases k.2.2.2.2.2.2)]); clear ho HP)
    clear hmb
    go_wp2_with (first | refine x_q H ?_ | refine x_cm (fun h => ?_) (fun h => ?_) | refine x_l H ?_ | refine x_e (ev_strLen rfl rfl) ?_ | (revert H; (first | (refine x_g ?_; intro g1 w1 hg hf H) | (refine x_s ?_; intro w1 hf H) | (refine x_sF ?_; intro w1 hf H hk; clear hf hk)); (first | replace hf := hf.kp | clear hf)) )
    (refine x_c H (below_any _ sym a0 a1 hs2 HB) ?_; clear H; rintro e w1 ⟨rfl, hF⟩ H; clear hF)
    go_wp2_with (first | refine x_q H ?_ | refine x_cm (fun h => ?_) (fun h => ?_) | refine x_l H ?_ | refine x_e (ev_strLen rfl rfl) ?_ | (revert H; (first | (refine x_g ?_; intro g1 w1 hg hf H) | (refine x_s ?_; intro w1 hf H) | (refine x_sF ?_; intro w1 hf H hk; clear hf hk)); (first | replace hf := hf.kp | clear hf)) )
    (refine c_postCT H rfl rfl rfl rfl ?_; exact ⟨H.fr, (0, 0, 0), false, rfl, (by rw [HO.out]; rfl), fun y h => (by rw [HO.out] at h; cases h), by decide⟩)
   clear hmb
   ·have HO : Hid (o = some (a0 - 1, a1 - 1, 4607182418800017408)) := hid (by rw [← ho.out]; unfold coE; rw [HP.out, if_pos ⟨rfl, rfl, b0, b1, b2, b3, HB.out⟩]; rfl)
    clear ho HP
    go_wp2_with (first | refine x_q H ?_ | refine x_cm (fun h => ?_) (fun h => ?_) | refine x_l H ?_ | refine x_e (ev_strLen rfl rfl) ?_ | (revert H; (first | (refine x_g ?_; intro g1 w1 hg hf H) | (refine x_s ?_; intro w1 hf H) | (refine x_sF ?_; intro w1 hf H hk; clear hf hk)); (first | replace hf := hf.kp | clear hf)) )
    (refine x_c H (below_any _ sym a0 a1 hs2 HB) ?_; clear H; rintro e w1 ⟨rfl, hF⟩ H; clear hF)
    go_wp2_with (first | refine x_q H ?_ | refine x_cm (fun h => ?_) (fun h => ?_) | refine x_l H ?_ | refine x_e (ev_strLen rfl rfl) ?_ | (revert H; (first | (refine x_g ?_; intro g1 w1 hg hf H) | (refine x_s ?_; intro w1 hf H) | (refine x_sF ?_; intro w1 hf H hk; clear hf hk)); (first | replace hf := hf.kp | clear hf)) )
    refine c_postCT H rfl rfl rfl rfl ?_
    refine ⟨H.fr, (a0 - 1, a1 - 1, 4607182418800017408), true, ?_, (by rw [HO.out]; rfl), fun y h => (by rw [HO.out] at h; cases h; rfl), (by show 4607182418800017408 < 18446744073709551616; decide)⟩
    have e0 : ((a0 - 1 : Nat) : Int) = (a0 : Int) - 1 := by omega
    have e1 : ((a1 - 1 : Nat) : Int) = (a1 : Int) - 1 := by omega
    unfold eC
    rw [e0, e1]
    rfl
  ·have HO : Hid (o = none) := hid (by rw [← ho.out]; unfold coE posOf; simp only [if_true]; rw [if_neg (fun k => hl k.1)])
   have hl' : ¬ (ws.length : Int) = 2 := by omega
   clear hl ho
   go_enter Tryz.func48, Tryz.ntmps48
   go_wp2_with (first | refine x_q H ?_ | refine x_cm (fun h => ?_) (fun h => ?_) | refine x_l H ?_ | refine x_e (ev_strLen rfl rfl) ?_ | (revert H; (first | (refine x_g ?_; intro g1 w1 hg hf H) | (refine x_s ?_; intro w1 hf H) | (refine x_sF ?_; intro w1 hf H hk; clear hf hk)); (first | replace hf := hf.kp | clear hf)) )
   (refine c_postCT H rfl rfl rfl rfl ?_; exact ⟨H.fr, (0, 0, 0), false, rfl, (by rw [HO.out]; rfl), fun y h => (by rw [HO.out] at h; cases h), by decide⟩)
 ·have h2' : ¬ (field : Int) = 2 := by omega
  by_cases hl : ws.length = 3
  ·obtain ⟨x, y, z, rfl⟩ := three_of hl
   obtain ⟨a0, ok0, h0⟩ : ∃ a ok, dgts x = (a, ok) := ⟨_, _, rfl⟩
   obtain ⟨a1, ok1, h1⟩ : ∃ a ok, dgts y = (a, ok) := ⟨_, _, rfl⟩
   have HX := hid h0
   have HY := hid h1
   have HP := hid (pos_eq (h := ⟨arr, field, sym⟩) (ws := [x, y, z]) (by show 3 = if field = 2 then 2 else 3; rw [if_neg h2]) h0 h1 hm hn)
   have hxl := HWZ.out x (by simp)
   have hyl := HWZ.out y (by simp)
   have hzl := HWZ.out z (by simp)
   have ha0 : a0 ≤ 1073741824 := dgts_le h0
   have ha1 : a1 ≤ 1073741824 := dgts_le h1
   clear h0 h1 hl hwn
   go_enter Tryz.func48, Tryz.ntmps48
   go_wp2_with (first | refine x_q H ?_ | refine x_cm (fun h => ?_) (fun h => ?_) | refine x_l H ?_ | refine x_e (ev_strLen rfl rfl) ?_ | (revert H; (first | (refine x_g ?_; intro g1 w1 hg hf H) | (refine x_s ?_; intro w1 hf H) | (refine x_sF ?_; intro w1 hf H hk; clear hf hk)); (first | replace hf := hf.kp | clear hf)) )
   (refine x_c H (digits_any _ x (by omega) HX) ?_; clear H; rintro e w1 ⟨rfl, hF⟩ H; clear hF)
   go_wp2_with (first | refine x_q H ?_ | refine x_cm (fun h => ?_) (fun h => ?_) | refine x_l H ?_ | refine x_e (ev_strLen rfl rfl) ?_ | (revert H; (first | (refine x_g ?_; intro g1 w1 hg hf H) | (refine x_s ?_; intro w1 hf H) | (refine x_sF ?_; intro w1 hf H hk; clear hf hk)); (first | replace hf := hf.kp | clear hf)) )
   (refine x_c H (digits_any _ y (by omega) HY) ?_; clear H; rintro e w1 ⟨rfl, hF⟩ H; clear hF)
   cases ok0
   ·(have HO : Hid (o = none) := hid (by rw [← ho.out]; unfold coE; rw [HP.out, if_neg (fun k => by cases k.1)]); clear ho HP)
    go_wp2_with (first | refine x_q H ?_ | refine x_cm (fun h => ?_) (fun h => ?_) | refine x_l H ?_ | refine x_e (ev_strLen rfl rfl) ?_ | (revert H; (first | (refine x_g ?_; intro g1 w1 hg hf H) | (refine x_s ?_; intro w1 hf H) | (refine x_sF ?_; intro w1 hf H hk; clear hf hk)); (first | replace hf := hf.kp | clear hf)) )
    (refine c_postCT H rfl rfl rfl rfl ?_; exact ⟨H.fr, (0, 0, 0), false, rfl, (by rw [HO.out]; rfl), fun y h => (by rw [HO.out] at h; cases h), by decide⟩)
   cases ok1
   ·(have HO : Hid (o = none) := hid (by rw [← ho.out]; unfold coE; rw [HP.out, if_neg (fun k => by cases k.2.1)]); clear ho HP)
    go_wp2_with (first | refine x_q H ?_ | refine x_cm (fun h => ?_) (fun h => ?_) | refine x_l H ?_ | refine x_e (ev_strLen rfl rfl) ?_ | (revert H; (first | (refine x_g ?_; intro g1 w1 hg hf H) | (refine x_s ?_; intro w1 hf H) | (refine x_sF ?_; intro w1 hf H hk; clear hf hk)); (first | replace hf := hf.kp | clear hf)) )
    (refine c_postCT H rfl rfl rfl rfl ?_; exact ⟨H.fr, (0, 0, 0), false, rfl, (by rw [HO.out]; rfl), fun y h => (by rw [HO.out] at h; cases h), by decide⟩)
   by_cases b0 : 1 ≤ a0
   case neg =>
    (have HO : Hid (o = none) := hid (by rw [← ho.out]; unfold coE; rw [HP.out, if_neg (fun k => b0 k.2.2.1)]); clear ho HP)
    go_wp2_with (first | refine x_q H ?_ | refine x_cm (fun h => ?_) (fun h => ?_) | refine x_l H ?_ | refine x_e (ev_strLen rfl rfl) ?_ | (revert H; (first | (refine x_g ?_; intro g1 w1 hg hf H) | (refine x_s ?_; intro w1 hf H) | (refine x_sF ?_; intro w1 hf H hk; clear hf hk)); (first | replace hf := hf.kp | clear hf)) )
    (refine c_postCT H rfl rfl rfl rfl ?_; exact ⟨H.fr, (0, 0, 0), false, rfl, (by rw [HO.out]; rfl), fun y h => (by rw [HO.out] at h; cases h), by decide⟩)
   by_cases b1 : a0 ≤ m
   case neg =>
    (have HO : Hid (o = none) := hid (by rw [← ho.out]; unfold coE; rw [HP.out, if_neg (fun k => b1 k.2.2.2.1)]); clear ho HP)
    go_wp2_with (first | refine x_q H ?_ | refine x_cm (fun h => ?_) (fun h => ?_) | refine x_l H ?_ | refine x_e (ev_strLen rfl rfl) ?_ | (revert H; (first | (refine x_g ?_; intro g1 w1 hg hf H) | (refine x_s ?_; intro w1 hf H) | (refine x_sF ?_; intro w1 hf H hk; clear hf hk)); (first | replace hf := hf.kp | clear hf)) )
    (refine c_postCT H rfl rfl rfl rfl ?_; exact ⟨H.fr, (0, 0, 0), false, rfl, (by rw [HO.out]; rfl), fun y h => (by rw [HO.out] at h; cases h), by decide⟩)
   by_cases b2 : 1 ≤ a1
   case neg =>
    (have HO : Hid (o = none) := hid (by rw [← ho.out]; unfold coE; rw [HP.out, if_neg (fun k => b2 k.2.2.2.2.1)]); clear ho HP)
    go_wp2_with (first | refine x_q H ?_ | refine x_cm (fun h => ?_) (fun h => ?_) | refine x_l H ?_ | refine x_e (ev_strLen rfl rfl) ?_ | (revert H; (first | (refine x_g ?_; intro g1 w1 hg hf H) | (refine x_s ?_; intro w1 hf H) | (refine x_sF ?_; intro w1 hf H hk; clear hf hk)); (first | replace hf := hf.kp | clear hf)) )
    (refine c_postCT H rfl rfl rfl rfl ?_; exact ⟨H.fr, (0, 0, 0), false, rfl, (by rw [HO.out]; rfl), fun y h => (by rw [HO.out] at h; cases h), by decide⟩)
   by_cases b3 : a1 ≤ n
   case neg =>
    (have HO : Hid (o = none) := hid (by rw [← ho.out]; unfold coE; rw [HP.out, if_neg (fun k => b3 k.2.2.2.2.2.1)]); clear ho HP)
    go_wp2_with (first | refine x_q H ?_ | refine x_cm (fun h => ?_) (fun h => ?_) | refine x_l H ?_ | refine x_e (ev_strLen rfl rfl) ?_ | (revert H; (first | (refine x_g ?_; intro g1 w1 hg hf H) | (refine x_s ?_; intro w1 hf H) | (refine x_sF ?_; intro w1 hf H hk; clear hf hk)); (first | replace hf := hf.kp | clear hf)) )
    (refine c_postCT H rfl rfl rfl rfl ?_; exact ⟨H.fr, (0, 0, 0), false, rfl, (by rw [HO.out]; rfl), fun y h => (by rw [HO.out] at h; cases h), by decide⟩)
   obtain ⟨mb, hmb⟩ : ∃ b, may sym a0 a1 = b := ⟨_, rfl⟩
   have HB := hid hmb
   cases mb
   ·(have HO : Hid (o = none) := hid (by rw [← ho.out]; unfold coE; rw [HP.out, if_neg (fun k => by rw [hmb] at k; cases k.2.2.2.2.2.2)]); clear ho HP)
    clear hmb
    go_wp2_with (first | refine x_q H ?_ | refine x_cm (fun h => ?_) (fun h => ?_) | refine x_l H ?_ | refine x_e (ev_strLen rfl rfl) ?_ | (revert H; (first | (refine x_g ?_; intro g1 w1 hg hf H) | (refine x_s ?_; intro w1 hf H) | (refine x_sF ?_; intro w1 hf H hk; clear hf hk)); (first | replace hf := hf.kp | clear hf)) )
    (refine x_c H (below_any _ sym a0 a1 hs2 HB) ?_; clear H; rintro e w1 ⟨rfl, hF⟩ H; clear hF)
    go_wp2_with (first | refine x_q H ?_ | refine x_cm (fun h => ?_) (fun h => ?_) | refine x_l H ?_ | refine x_e (ev_strLen rfl rfl) ?_ | (revert H; (first | (refine x_g ?_; intro g1 w1 hg hf H) | (refine x_s ?_; intro w1 hf H) | (refine x_sF ?_; intro w1 hf H hk; clear hf hk)); (first | replace hf := hf.kp | clear hf)) )
    (refine c_postCT H rfl rfl rfl rfl ?_; exact ⟨H.fr, (0, 0, 0), false, rfl, (by rw [HO.out]; rfl), fun y h => (by rw [HO.out] at h; cases h), by decide⟩)
   clear hmb
   ·obtain ⟨ov, hov0⟩ : ∃ v, fval field z = v := ⟨_, rfl⟩
    have HOV := hid hov0
    have HO : Hid (o = ov.map fun f => (a0 - 1, a1 - 1, f)) := hid (by rw [← ho.out]; unfold coE; rw [HP.out, if_pos ⟨rfl, rfl, b0, b1, b2, b3, HB.out⟩]; show (if field = 2 then _ else _) = _; rw [if_neg h2, ← hov0]; rfl)
    clear ho HP hov0
    go_wp2_with (first | refine x_q H ?_ | refine x_cm (fun h => ?_) (fun h => ?_) | refine x_l H ?_ | refine x_e (ev_strLen rfl rfl) ?_ | (revert H; (first | (refine x_g ?_; intro g1 w1 hg hf H) | (refine x_s ?_; intro w1 hf H) | (refine x_sF ?_; intro w1 hf H hk; clear hf hk)); (first | replace hf := hf.kp | clear hf)) )
    (refine x_c H (below_any _ sym a0 a1 hs2 HB) ?_; clear H; rintro e w1 ⟨rfl, hF⟩ H; clear hF)
    go_wp2_with (first | refine x_q H ?_ | refine x_cm (fun h => ?_) (fun h => ?_) | refine x_l H ?_ | refine x_e (ev_strLen rfl rfl) ?_ | (revert H; (first | (refine x_g ?_; intro g1 w1 hg hf H) | (refine x_s ?_; intro w1 hf H) | (refine x_sF ?_; intro w1 hf H hk; clear hf hk)); (first | replace hf := hf.kp | clear hf)) )
    (revert H; refine w_p 12 (.st 0 (.st 1 (.st 2 (.st 3 (.st 4 (.ld 5 (.st 6 (.st 7 (.st 8 (.st 9 (.ld 10 (.st 11 .done)))))))))))) ?_ (hs := (.cons _ (List.Sublist.refl _))); intro w1 H)
    iterate 5 refine p_q ?_
    (refine p_c H rfl rfl Tryz.func49 (value_any _ z field hf2 hzl (HT.out.fr H.fr) HOV) ?_; clear H; rintro e w1 ⟨f, b, rfl, hF, hf64, hb, hfb⟩ H; refine p_r ?_; clear hF)
    iterate 4 refine p_q ?_
    (revert H; refine p_s ?_; intro w1 hf H; (first | replace hf := hf.kp | clear hf))
    refine p_q ?_
    (refine pl_done ?_)
    all_goals
     go_wp2_with (first | refine x_q H ?_ | refine x_cm (fun h => ?_) (fun h => ?_) | refine x_l H ?_ | refine x_e (ev_strLen rfl rfl) ?_ | (revert H; (first | (refine x_g ?_; intro g1 w1 hg hf H) | (refine x_s ?_; intro w1 hf H) | (refine x_sF ?_; intro w1 hf H hk; clear hf hk)); (first | replace hf := hf.kp | clear hf)) )
     refine c_postCT H rfl rfl rfl rfl ?_
     refine ⟨H.fr, (a0 - 1, a1 - 1, f), b, ?_, (by rw [HO.out, hb]; cases ov <;> rfl), fun y h => ?_, hf64⟩
     ·have e0 : ((a0 - 1 : Nat) : Int) = (a0 : Int) - 1 := by omega
      have e1 : ((a1 - 1 : Nat) : Int) = (a1 : Int) - 1 := by omega
      unfold eC
      rw [e0, e1]
     ·rw [HO.out] at h
      obtain ⟨f', hf', rfl⟩ := Option.map_eq_some_iff.1 h
      rw [hfb f' hf']
  ·have HO : Hid (o = none) := hid (by rw [← ho.out]; unfold coE posOf; simp only [if_neg h2]; rw [if_neg (fun k => hl k.1)])
   have hl' : ¬ (ws.length : Int) = 3 := by omega
   clear hl ho
   go_enter Tryz.func48, Tryz.ntmps48
   go_wp2_with (first | refine x_q H ?_ | refine x_cm (fun h => ?_) (fun h => ?_) | refine x_l H ?_ | refine x_e (ev_strLen rfl rfl) ?_ | (revert H; (first | (refine x_g ?_; intro g1 w1 hg hf H) | (refine x_s ?_; intro w1 hf H) | (refine x_sF ?_; intro w1 hf H hk; clear hf hk)); (first | replace hf := hf.kp | clear hf)) )
   (refine c_postCT H rfl rfl rfl rfl ?_; exact ⟨H.fr, (0, 0, 0), false, rfl, (by rw [HO.out]; rfl), fun y h => (by rw [HO.out] at h; cases h), by decide⟩)
end Go.Proofs.YtomggcdmhflboaaGreatDoor
