import Derived.Test.YtomggcdmhflboaaGreatDoorXMc1
namespace Go.Proofs.YtomggcdmhflboaaGreatDoor
open Go.RowKit
set_option linter.unusedSimpArgs false
set_option linter.unusedVariables false
set_option maxHeartbeats 16000000
set_option maxRecDepth 100000
def Lh (w : World) : Prop := (∀ j s, sFlds[j]? = some s → w.cell? ⟨0, j, none⟩ = some (strV s)) ∧ (∀ j s, sSyms[j]? = some s → w.cell? ⟨1, j, none⟩ = some (strV s))
theorem Lh.fr {w w' : World} {T : List Nat} (h : Lh w) (k : Fr T w w') (h0 : 0 ∉ T) (h1 : 1 ∉ T) : Lh w' := ⟨fun j s hj => k.cell (h.1 j s hj) h0, fun j s hj => k.cell (h.2 j s hj) h1⟩
theorem mapk_next {ws : List (List UInt8)} {k : Nat} {s : List UInt8} (h : ws[k]? = some s) : (((ws.take k).map low ++ ws.drop k).map strV).set k (strV (low s)) = ((ws.take (k + 1)).map low ++ ws.drop (k + 1)).map strV := by
 obtain ⟨hlt, rfl⟩ := List.getElem?_eq_some_iff.1 h
 rw [← List.map_set, List.set_append_right _ _ (by simp; omega)]
 simp only [List.length_map, List.length_take, Nat.min_eq_left (Nat.le_of_lt hlt), Nat.sub_self]
 rw [List.drop_eq_getElem_cons hlt, List.set_cons_zero, List.take_add_one, h]
 simp only [Option.toList_some, List.map_append, List.map_cons, List.map_nil, List.append_assoc, List.singleton_append]
theorem mapk_get {ws : List (List UInt8)} {k : Nat} {s : List UInt8} (h : ws[k]? = some s) : (((ws.take k).map low ++ ws.drop k).map strV)[k]? = some (strV s) := by
 obtain ⟨hlt, he⟩ := List.getElem?_eq_some_iff.1 h
 rw [List.getElem?_map, List.getElem?_append_right (by simp; omega)]
 simp only [List.length_map, List.length_take, Nat.min_eq_left (Nat.le_of_lt hlt), Nat.sub_self, List.getElem?_drop, Nat.add_zero]
 rw [h]; rfl
def fileC (h : Hd) : List Value := [.int .i64 0, .int .i64 0, .slice none 0 0, .slice none 0 0, .slice none 0 0, .bool h.arr, .int .i64 (h.field : Int), .int .i64 (h.sym : Int)]
def hdr5 (a b c d e : List UInt8) : Option Hd := if a = sMM ∧ b = sMat ∧ (c = sCoo ∨ c = sArr) ∧ d ∈ sFlds ∧ e ∈ sSyms ∧ ¬ (c = sArr ∧ sFlds.idxOf d = 2) then some ⟨decide (c = sArr), sFlds.idxOf d, sSyms.idxOf e⟩ else none
theorem hdr_five {line : List UInt8} {ws : List (List UInt8)} {a b c d e : List UInt8} (h : mwords line = ws) (h5 : ws.map low = [a, b, c, d, e]) : hdr line = hdr5 a b c d e := by
 unfold hdr; rw [h, h5]; rfl
theorem hdr_not {line : List UInt8} {ws : List (List UInt8)} (h : mwords line = ws) (h5 : ws.length ≠ 5) : hdr line = none := by
 unfold hdr
 rw [h]
 have h6 : (ws.map low).length ≠ 5 := by simpa using h5
 generalize ws.map low = vs at h6
 split
 ·simp at h6
 ·rfl
theorem five_of {vs : List (List UInt8)} (h : vs.length = 5) : ∃ a b c d e, vs = [a, b, c, d, e] := by
 match vs, h with
 | [a, b, c, d, e], _ => exact ⟨a, b, c, d, e, rfl⟩
theorem flds_lt {d : List UInt8} (h : d ∈ sFlds) : sFlds.idxOf d ≤ 2 := by have := List.idxOf_lt_length_of_mem h; have e : sFlds.length = 3 := rfl; omega
theorem syms_lt {d : List UInt8} (h : d ∈ sSyms) : sSyms.idxOf d ≤ 2 := by have := List.idxOf_lt_length_of_mem h; have e : sSyms.length = 3 := rfl; omega
def HdrPost (o : Option Hd) (gf : Nat) (e : Ending) (w' : World) : Prop :=
 match o with
 | some h => e = .returned (.bool true) ∧ w'.heap[gf]? = some (.cells (fileC h).toArray 30 (0, 0))
 | none => e = .returned (.bool false) ∧ ∃ cs : List Value, cs.length = 8 ∧ w'.heap[gf]? = some (.cells cs.toArray 30 (0, 0))
set_option maxHeartbeats 32000000 in
theorem header_any {gf : Nat} {w : World} (line : List UInt8) (hlen : line.length ≤ 2000000) (hf0 : w.heap[gf]? = some (.cells (fileC ⟨false, 0, 0⟩).toArray 30 (0, 0))) (hL : Lh w) (h2 : 2 ≤ gf) {o : Option Hd} (ho : Hid (hdr line = o)) :
  Calls Tryz.prog 20 #[strV line, .pointer (some ⟨gf, 0, none⟩)] w fun e w' => Fr [gf] w w' ∧ HdrPost o gf e w' := by
 have H := (Hp.start [gf] w).push hf0 (.inl (by simp)) (by simp)
 have HL := hid hL
 clear hL hf0
 obtain ⟨ws, hws0⟩ : ∃ ws, mwords line = ws := ⟨_, rfl⟩
 have hws := hid hws0
 have hwc := mwords_count line
 rw [hws0] at hwc
 have HWZ := hid (show ∀ x ∈ ws, x.length ≤ 2000000 from fun x hx => Nat.le_trans (mwords_size (hws0 ▸ hx)) hlen)
 clear hws0
 unfold fileC at H
 go_enter Tryz.func20, Tryz.ntmps20
 go_wp2_with (first | refine x_e (ev_strEqB rfl rfl rfl (by assumption)) ?_ | refine x_e (ev_strNeB rfl rfl rfl (by assumption)) ?_ | refine x_q H ?_ | refine x_cm (fun h => ?_) (fun h => ?_) | refine x_l H ?_ | refine x_e (ev_strLen rfl rfl) ?_ | refine x_e (c_ldc rfl rfl (by assumption)) ?_ | (revert H; (first | (refine x_g ?_; intro g w1 hg hf H) | (refine x_s ?_; intro w1 hf H)); (first | replace hf := hf.kp | clear hf)) )
 (have H0 := H; refine Calls.mono (words_is _ hws (by omega)) ?_; clear H; rintro e w1 ⟨q, rfl, hF, hq, hc⟩; have HQ := hid (Nat.le_trans H0.fr.size hq); have H := H0.bornB hF hq hc; clear H0; clear hF hq hc)
 go_wp2_with (first | refine x_e (ev_strEqB rfl rfl rfl (by assumption)) ?_ | refine x_e (ev_strNeB rfl rfl rfl (by assumption)) ?_ | refine x_q H ?_ | refine x_cm (fun h => ?_) (fun h => ?_) | refine x_l H ?_ | refine x_e (ev_strLen rfl rfl) ?_ | refine x_e (c_ldc rfl rfl (by assumption)) ?_ | (revert H; (first | (refine x_g ?_; intro g w1 hg hf H) | (refine x_s ?_; intro w1 hf H)); (first | replace hf := hf.kp | clear hf)) )
 go_loopw [12] (fun s12 wr => ∃ (k : Nat) (cs : List Value), s12 = .int .i64 (k : Int) ∧ k ≤ ws.length ∧ cs.length = ws.length ∧ Hid (cs = ((ws.take k).map low ++ ws.drop k).map strV) ∧ Hp [gf] w wr [.blk q cs 9, .blk gf [.int .i64 0, .int .i64 0, .slice none 0 0, .slice none 0 0, .slice none 0 0, .bool false, .int .i64 ((0 : Nat) : Int), .int .i64 ((0 : Nat) : Int)] 30]) (fun v _ => ws.length - (intOf v).toNat)
 case atStart => exact ⟨0, ws.map strV, rfl, Nat.zero_le _, by simp, hid (by simp), H⟩
 case round =>
  clear H
  obtain ⟨k, cs, rfl, hk, hcl, HC, H⟩ := hrel
  by_cases hlt : k < ws.length
  ·obtain ⟨s, hs⟩ : ∃ s, ws[k]? = some s := ⟨_, List.getElem?_eq_getElem hlt⟩
   have hget : cs[k]? = some (strV s) := by rw [HC.out]; exact mapk_get hs
   have HC2 := hid (show cs.set k (strV (low s)) = ((ws.take (k + 1)).map low ++ ws.drop (k + 1)).map strV by rw [HC.out]; exact mapk_next hs)
   have hsl := HWZ.out s (List.mem_of_getElem? hs)
   clear HC
   go_wp2_with (first | refine x_e (ev_strEqB rfl rfl rfl (by assumption)) ?_ | refine x_e (ev_strNeB rfl rfl rfl (by assumption)) ?_ | refine x_q H ?_ | refine x_cm (fun h => ?_) (fun h => ?_) | refine x_l H ?_ | refine x_e (ev_strLen rfl rfl) ?_ | refine x_e (c_ldc rfl rfl (by assumption)) ?_ | (revert H; (first | (refine x_g ?_; intro g w1 hg hf H) | (refine x_s ?_; intro w1 hf H)); (first | replace hf := hf.kp | clear hf)) )
   (refine x_c H (lower_any _ s (by omega)) ?_; clear H; rintro e w1 ⟨rfl, hF⟩ H; clear hF)
   go_wp2_with (first | refine x_e (ev_strEqB rfl rfl rfl (by assumption)) ?_ | refine x_e (ev_strNeB rfl rfl rfl (by assumption)) ?_ | refine x_q H ?_ | refine x_cm (fun h => ?_) (fun h => ?_) | refine x_l H ?_ | refine x_e (ev_strLen rfl rfl) ?_ | refine x_e (c_ldc rfl rfl (by assumption)) ?_ | (revert H; (first | (refine x_g ?_; intro g w1 hg hf H) | (refine x_s ?_; intro w1 hf H)); (first | replace hf := hf.kp | clear hf)) )
   go_roundw
   case rel => exact ⟨k + 1, _, rfl, by omega, by rw [List.length_set]; exact hcl, HC2, H⟩
   case measure => (simp [intOf]; try omega)
  ·have hke : k = ws.length := by omega
   have HC2 : Hid (cs = (ws.map low).map strV) := hid (by rw [HC.out, hke]; simp)
   clear hke HC
   by_cases h5 : ws.length = 5
   ·obtain ⟨a, b, c, d, x, hv⟩ := five_of (vs := ws.map low) (by simpa using h5)
    have HH := hid (ho.out.symm.trans (hdr_five hws.out hv))
    have hcs : cs = [strV a, strV b, strV c, strV d, strV x] := by rw [HC2.out, hv]; rfl
    subst hcs
    clear HC2 hv
    obtain ⟨za, hza⟩ : ∃ z, (a == sMM) = z := ⟨_, rfl⟩
    obtain ⟨zb, hzb⟩ : ∃ z, (b == sMat) = z := ⟨_, rfl⟩
    obtain ⟨zc, hzc⟩ : ∃ z, (c == sCoo) = z := ⟨_, rfl⟩
    obtain ⟨zr, hzr⟩ : ∃ z, (c == sArr) = z := ⟨_, rfl⟩
    obtain ⟨z3, hz3⟩ : ∃ z, idxI sFlds d = z := ⟨_, rfl⟩
    obtain ⟨z4, hz4⟩ : ∃ z, idxI sSyms x = z := ⟨_, rfl⟩
    have HZ3 := hid hz3
    have HZ4 := hid hz4
    have HZA := hid hza
    have HZB := hid hzb
    have HZC := hid hzc
    have HZR := hid hzr
    have flip : ∀ {p q : List UInt8} {z : Bool}, (p == q) = z → z = true → p = q := fun h e => by rw [e] at h; exact eq_of_beq h
    have fno : ∀ {p q : List UInt8} {z : Bool}, (p == q) = z → z = false → p ≠ q := fun h e => by rw [e] at h; exact ne_of_beq_false h
    cases za
    ·have HN : Hid (o = none) := hid (HH.out.trans (if_neg fun k => fno hza rfl k.1))
     clear hza hzb hzc hzr hz3 hz4 HH flip fno
     go_wp2_with (first | refine x_e (ev_strEqB rfl rfl rfl (by assumption)) ?_ | refine x_e (ev_strNeB rfl rfl rfl (by assumption)) ?_ | refine x_q H ?_ | refine x_cm (fun h => ?_) (fun h => ?_) | refine x_l H ?_ | refine x_e (ev_strLen rfl rfl) ?_ | refine x_e (c_ldc rfl rfl (by assumption)) ?_ | (revert H; (first | (refine x_g ?_; intro g w1 hg hf H) | (refine x_s ?_; intro w1 hf H)); (first | replace hf := hf.kp | clear hf)) )
     (go_ret; refine ⟨H.fr, ?_⟩; rw [HN.out]; exact ⟨rfl, _, rfl, H.get (.tail _ (.head _))⟩)
    ·cases zb
     ·have HN : Hid (o = none) := hid (HH.out.trans (if_neg fun k => fno hzb rfl k.2.1))
      clear hza hzb hzc hzr hz3 hz4 HH flip fno
      go_wp2_with (first | refine x_e (ev_strEqB rfl rfl rfl (by assumption)) ?_ | refine x_e (ev_strNeB rfl rfl rfl (by assumption)) ?_ | refine x_q H ?_ | refine x_cm (fun h => ?_) (fun h => ?_) | refine x_l H ?_ | refine x_e (ev_strLen rfl rfl) ?_ | refine x_e (c_ldc rfl rfl (by assumption)) ?_ | (revert H; (first | (refine x_g ?_; intro g w1 hg hf H) | (refine x_s ?_; intro w1 hf H)); (first | replace hf := hf.kp | clear hf)) )
      (go_ret; refine ⟨H.fr, ?_⟩; rw [HN.out]; exact ⟨rfl, _, rfl, H.get (.tail _ (.head _))⟩)
     ·cases zc
      ·cases zr
       ·have HN : Hid (o = none) := hid (HH.out.trans (if_neg fun k => k.2.2.1.elim (fno hzc rfl) (fno hzr rfl)))
        clear hza hzb hzc hzr hz3 hz4 HH flip fno
        go_wp2_with (first | refine x_e (ev_strEqB rfl rfl rfl (by assumption)) ?_ | refine x_e (ev_strNeB rfl rfl rfl (by assumption)) ?_ | refine x_q H ?_ | refine x_cm (fun h => ?_) (fun h => ?_) | refine x_l H ?_ | refine x_e (ev_strLen rfl rfl) ?_ | refine x_e (c_ldc rfl rfl (by assumption)) ?_ | (revert H; (first | (refine x_g ?_; intro g w1 hg hf H) | (refine x_s ?_; intro w1 hf H)); (first | replace hf := hf.kp | clear hf)) )
        (go_ret; refine ⟨H.fr, ?_⟩; rw [HN.out]; exact ⟨rfl, _, rfl, H.get (.tail _ (.head _))⟩)
       ·have HO : Hid (o = if d ∈ sFlds ∧ x ∈ sSyms ∧ sFlds.idxOf d ≠ 2 then some ⟨true, sFlds.idxOf d, sSyms.idxOf x⟩ else none) := hid (by
         rw [HH.out]; unfold hdr5
         have e1 := flip hza rfl
         have e2 := flip hzb rfl
         have e3 := flip hzr rfl
         subst e1 e2 e3
         simp)
        clear hza hzb hzc hzr HH flip fno
        by_cases hd : d ∈ sFlds
        ·have hfl := flds_lt hd
         obtain ⟨f, hf⟩ : ∃ f, sFlds.idxOf d = f := ⟨_, rfl⟩
         have e3 : z3 = (f : Int) := by rw [← hz3]; unfold idxI; rw [if_pos hd, hf]
         rw [hf] at hfl
         subst e3
         clear hz3
         by_cases hx : x ∈ sSyms
         ·have hsl := syms_lt hx
          obtain ⟨y, hy⟩ : ∃ y, sSyms.idxOf x = y := ⟨_, rfl⟩
          have e4 : z4 = (y : Int) := by rw [← hz4]; unfold idxI; rw [if_pos hx, hy]
          rw [hy] at hsl
          subst e4
          clear hz4
          by_cases hf2 : f = 2
          ·have HN : Hid (o = none) := hid (by rw [HO.out, if_neg (fun k => k.2.2 (hf.trans hf2))])
           subst hf2
           clear HO hd hx hf hy
           go_wp2_with (first | refine x_e (ev_strEqB rfl rfl rfl (by assumption)) ?_ | refine x_e (ev_strNeB rfl rfl rfl (by assumption)) ?_ | refine x_q H ?_ | refine x_cm (fun h => ?_) (fun h => ?_) | refine x_l H ?_ | refine x_e (ev_strLen rfl rfl) ?_ | refine x_e (c_ldc rfl rfl (by assumption)) ?_ | (revert H; (first | (refine x_g ?_; intro g w1 hg hf H) | (refine x_s ?_; intro w1 hf H)); (first | replace hf := hf.kp | clear hf)) )
           (revert H; refine w_p 8 (.st 0 (.st 1 (.st 2 (.st 3 (.st 4 (.ld 5 (.st 6 (.st 7 (.ld 8 .done))))))))) ?_; intro w1 H)
           iterate 5 refine p_q ?_
           ((refine p_c H rfl rfl Tryz.func43 (index_any _ sFlds d rfl (by decide) (HL.out.fr H.fr (by simp; omega) (by simp; omega)).1 HZ3) ?_; clear H; rintro e w1 ⟨rfl, hF⟩ H; refine p_r ?_; clear hF))
           iterate 2 refine p_q ?_
           (revert H; refine p_s ?_; intro w1 hf H; (first | replace hf := hf.kp | clear hf))
           (refine pl_done ?_)
           all_goals
            go_wp2_with (first | refine x_e (ev_strEqB rfl rfl rfl (by assumption)) ?_ | refine x_e (ev_strNeB rfl rfl rfl (by assumption)) ?_ | refine x_q H ?_ | refine x_cm (fun h => ?_) (fun h => ?_) | refine x_l H ?_ | refine x_e (ev_strLen rfl rfl) ?_ | refine x_e (c_ldc rfl rfl (by assumption)) ?_ | (revert H; (first | (refine x_g ?_; intro g w1 hg hf H) | (refine x_s ?_; intro w1 hf H)); (first | replace hf := hf.kp | clear hf)) )
            (revert H; refine w_p 8 (.st 0 (.st 1 (.st 2 (.st 3 (.st 4 (.ld 5 (.st 6 (.st 7 (.ld 8 .done))))))))) ?_; intro w1 H)
            iterate 5 refine p_q ?_
            ((refine p_c H rfl rfl Tryz.func43 (index_any _ sSyms x rfl (by decide) (HL.out.fr H.fr (by simp; omega) (by simp; omega)).2 HZ4) ?_; clear H; rintro e w1 ⟨rfl, hF⟩ H; refine p_r ?_; clear hF))
            iterate 2 refine p_q ?_
            (revert H; refine p_s ?_; intro w1 hf H; (first | replace hf := hf.kp | clear hf))
            (refine pl_done ?_)
            all_goals
             go_wp2_with (first | refine x_e (ev_strEqB rfl rfl rfl (by assumption)) ?_ | refine x_e (ev_strNeB rfl rfl rfl (by assumption)) ?_ | refine x_q H ?_ | refine x_cm (fun h => ?_) (fun h => ?_) | refine x_l H ?_ | refine x_e (ev_strLen rfl rfl) ?_ | refine x_e (c_ldc rfl rfl (by assumption)) ?_ | (revert H; (first | (refine x_g ?_; intro g w1 hg hf H) | (refine x_s ?_; intro w1 hf H)); (first | replace hf := hf.kp | clear hf)) )
             (go_ret; refine ⟨H.fr, ?_⟩; rw [HN.out]; exact ⟨rfl, _, rfl, H.get (.tail _ (.head _))⟩)
          ·have HN : Hid (o = some ⟨true, f, y⟩) := hid (by rw [HO.out, if_pos ⟨hd, hx, fun e => hf2 (hf.symm.trans e)⟩, hf, hy])
           have hf2' : ¬ (f : Int) = 2 := by omega
           clear HO hd hx hf hy hf2
           go_wp2_with (first | refine x_e (ev_strEqB rfl rfl rfl (by assumption)) ?_ | refine x_e (ev_strNeB rfl rfl rfl (by assumption)) ?_ | refine x_q H ?_ | refine x_cm (fun h => ?_) (fun h => ?_) | refine x_l H ?_ | refine x_e (ev_strLen rfl rfl) ?_ | refine x_e (c_ldc rfl rfl (by assumption)) ?_ | (revert H; (first | (refine x_g ?_; intro g w1 hg hf H) | (refine x_s ?_; intro w1 hf H)); (first | replace hf := hf.kp | clear hf)) )
           (revert H; refine w_p 8 (.st 0 (.st 1 (.st 2 (.st 3 (.st 4 (.ld 5 (.st 6 (.st 7 (.ld 8 .done))))))))) ?_; intro w1 H)
           iterate 5 refine p_q ?_
           ((refine p_c H rfl rfl Tryz.func43 (index_any _ sFlds d rfl (by decide) (HL.out.fr H.fr (by simp; omega) (by simp; omega)).1 HZ3) ?_; clear H; rintro e w1 ⟨rfl, hF⟩ H; refine p_r ?_; clear hF))
           iterate 2 refine p_q ?_
           (revert H; refine p_s ?_; intro w1 hf H; (first | replace hf := hf.kp | clear hf))
           (refine pl_done ?_)
           all_goals
            go_wp2_with (first | refine x_e (ev_strEqB rfl rfl rfl (by assumption)) ?_ | refine x_e (ev_strNeB rfl rfl rfl (by assumption)) ?_ | refine x_q H ?_ | refine x_cm (fun h => ?_) (fun h => ?_) | refine x_l H ?_ | refine x_e (ev_strLen rfl rfl) ?_ | refine x_e (c_ldc rfl rfl (by assumption)) ?_ | (revert H; (first | (refine x_g ?_; intro g w1 hg hf H) | (refine x_s ?_; intro w1 hf H)); (first | replace hf := hf.kp | clear hf)) )
            (revert H; refine w_p 8 (.st 0 (.st 1 (.st 2 (.st 3 (.st 4 (.ld 5 (.st 6 (.st 7 (.ld 8 .done))))))))) ?_; intro w1 H)
            iterate 5 refine p_q ?_
            ((refine p_c H rfl rfl Tryz.func43 (index_any _ sSyms x rfl (by decide) (HL.out.fr H.fr (by simp; omega) (by simp; omega)).2 HZ4) ?_; clear H; rintro e w1 ⟨rfl, hF⟩ H; refine p_r ?_; clear hF))
            iterate 2 refine p_q ?_
            (revert H; refine p_s ?_; intro w1 hf H; (first | replace hf := hf.kp | clear hf))
            (refine pl_done ?_)
            all_goals
             go_wp2_with (first | refine x_e (ev_strEqB rfl rfl rfl (by assumption)) ?_ | refine x_e (ev_strNeB rfl rfl rfl (by assumption)) ?_ | refine x_q H ?_ | refine x_cm (fun h => ?_) (fun h => ?_) | refine x_l H ?_ | refine x_e (ev_strLen rfl rfl) ?_ | refine x_e (c_ldc rfl rfl (by assumption)) ?_ | (revert H; (first | (refine x_g ?_; intro g w1 hg hf H) | (refine x_s ?_; intro w1 hf H)); (first | replace hf := hf.kp | clear hf)) )
             (go_ret; refine ⟨H.fr, ?_⟩; rw [HN.out]; exact ⟨rfl, H.get (.tail _ (.head _))⟩)
         ·have e4 : z4 = -1 := by rw [← hz4]; unfold idxI; rw [if_neg hx]
          have HN : Hid (o = none) := hid (by rw [HO.out, if_neg (by intro k; exact hx (by first | exact k.2 | exact k.2.1))])
          subst e4
          clear hz4 HO hd hx hf
          go_wp2_with (first | refine x_e (ev_strEqB rfl rfl rfl (by assumption)) ?_ | refine x_e (ev_strNeB rfl rfl rfl (by assumption)) ?_ | refine x_q H ?_ | refine x_cm (fun h => ?_) (fun h => ?_) | refine x_l H ?_ | refine x_e (ev_strLen rfl rfl) ?_ | refine x_e (c_ldc rfl rfl (by assumption)) ?_ | (revert H; (first | (refine x_g ?_; intro g w1 hg hf H) | (refine x_s ?_; intro w1 hf H)); (first | replace hf := hf.kp | clear hf)) )
          (revert H; refine w_p 8 (.st 0 (.st 1 (.st 2 (.st 3 (.st 4 (.ld 5 (.st 6 (.st 7 (.ld 8 .done))))))))) ?_; intro w1 H)
          iterate 5 refine p_q ?_
          ((refine p_c H rfl rfl Tryz.func43 (index_any _ sFlds d rfl (by decide) (HL.out.fr H.fr (by simp; omega) (by simp; omega)).1 HZ3) ?_; clear H; rintro e w1 ⟨rfl, hF⟩ H; refine p_r ?_; clear hF))
          iterate 2 refine p_q ?_
          (revert H; refine p_s ?_; intro w1 hf H; (first | replace hf := hf.kp | clear hf))
          (refine pl_done ?_)
          all_goals
           go_wp2_with (first | refine x_e (ev_strEqB rfl rfl rfl (by assumption)) ?_ | refine x_e (ev_strNeB rfl rfl rfl (by assumption)) ?_ | refine x_q H ?_ | refine x_cm (fun h => ?_) (fun h => ?_) | refine x_l H ?_ | refine x_e (ev_strLen rfl rfl) ?_ | refine x_e (c_ldc rfl rfl (by assumption)) ?_ | (revert H; (first | (refine x_g ?_; intro g w1 hg hf H) | (refine x_s ?_; intro w1 hf H)); (first | replace hf := hf.kp | clear hf)) )
           (revert H; refine w_p 8 (.st 0 (.st 1 (.st 2 (.st 3 (.st 4 (.ld 5 (.st 6 (.st 7 (.ld 8 .done))))))))) ?_; intro w1 H)
           iterate 5 refine p_q ?_
           ((refine p_c H rfl rfl Tryz.func43 (index_any _ sSyms x rfl (by decide) (HL.out.fr H.fr (by simp; omega) (by simp; omega)).2 HZ4) ?_; clear H; rintro e w1 ⟨rfl, hF⟩ H; refine p_r ?_; clear hF))
           iterate 2 refine p_q ?_
           (revert H; refine p_s ?_; intro w1 hf H; (first | replace hf := hf.kp | clear hf))
           (refine pl_done ?_)
           all_goals
            go_wp2_with (first | refine x_e (ev_strEqB rfl rfl rfl (by assumption)) ?_ | refine x_e (ev_strNeB rfl rfl rfl (by assumption)) ?_ | refine x_q H ?_ | refine x_cm (fun h => ?_) (fun h => ?_) | refine x_l H ?_ | refine x_e (ev_strLen rfl rfl) ?_ | refine x_e (c_ldc rfl rfl (by assumption)) ?_ | (revert H; (first | (refine x_g ?_; intro g w1 hg hf H) | (refine x_s ?_; intro w1 hf H)); (first | replace hf := hf.kp | clear hf)) )
            (go_ret; refine ⟨H.fr, ?_⟩; rw [HN.out]; exact ⟨rfl, _, rfl, H.get (.tail _ (.head _))⟩)
        ·have e3 : z3 = -1 := by rw [← hz3]; unfold idxI; rw [if_neg hd]
         have HN : Hid (o = none) := hid (by rw [HO.out, if_neg (fun k => hd k.1)])
         subst e3
         clear hz3 hz4 HO hd
         go_wp2_with (first | refine x_e (ev_strEqB rfl rfl rfl (by assumption)) ?_ | refine x_e (ev_strNeB rfl rfl rfl (by assumption)) ?_ | refine x_q H ?_ | refine x_cm (fun h => ?_) (fun h => ?_) | refine x_l H ?_ | refine x_e (ev_strLen rfl rfl) ?_ | refine x_e (c_ldc rfl rfl (by assumption)) ?_ | (revert H; (first | (refine x_g ?_; intro g w1 hg hf H) | (refine x_s ?_; intro w1 hf H)); (first | replace hf := hf.kp | clear hf)) )
         (revert H; refine w_p 8 (.st 0 (.st 1 (.st 2 (.st 3 (.st 4 (.ld 5 (.st 6 (.st 7 (.ld 8 .done))))))))) ?_; intro w1 H)
         iterate 5 refine p_q ?_
         ((refine p_c H rfl rfl Tryz.func43 (index_any _ sFlds d rfl (by decide) (HL.out.fr H.fr (by simp; omega) (by simp; omega)).1 HZ3) ?_; clear H; rintro e w1 ⟨rfl, hF⟩ H; refine p_r ?_; clear hF))
         iterate 2 refine p_q ?_
         (revert H; refine p_s ?_; intro w1 hf H; (first | replace hf := hf.kp | clear hf))
         (refine pl_done ?_)
         all_goals
          go_wp2_with (first | refine x_e (ev_strEqB rfl rfl rfl (by assumption)) ?_ | refine x_e (ev_strNeB rfl rfl rfl (by assumption)) ?_ | refine x_q H ?_ | refine x_cm (fun h => ?_) (fun h => ?_) | refine x_l H ?_ | refine x_e (ev_strLen rfl rfl) ?_ | refine x_e (c_ldc rfl rfl (by assumption)) ?_ | (revert H; (first | (refine x_g ?_; intro g w1 hg hf H) | (refine x_s ?_; intro w1 hf H)); (first | replace hf := hf.kp | clear hf)) )
          (revert H; refine w_p 8 (.st 0 (.st 1 (.st 2 (.st 3 (.st 4 (.ld 5 (.st 6 (.st 7 (.ld 8 .done))))))))) ?_; intro w1 H)
          iterate 5 refine p_q ?_
          ((refine p_c H rfl rfl Tryz.func43 (index_any _ sSyms x rfl (by decide) (HL.out.fr H.fr (by simp; omega) (by simp; omega)).2 HZ4) ?_; clear H; rintro e w1 ⟨rfl, hF⟩ H; refine p_r ?_; clear hF))
          iterate 2 refine p_q ?_
          (revert H; refine p_s ?_; intro w1 hf H; (first | replace hf := hf.kp | clear hf))
          (refine pl_done ?_)
          all_goals
           go_wp2_with (first | refine x_e (ev_strEqB rfl rfl rfl (by assumption)) ?_ | refine x_e (ev_strNeB rfl rfl rfl (by assumption)) ?_ | refine x_q H ?_ | refine x_cm (fun h => ?_) (fun h => ?_) | refine x_l H ?_ | refine x_e (ev_strLen rfl rfl) ?_ | refine x_e (c_ldc rfl rfl (by assumption)) ?_ | (revert H; (first | (refine x_g ?_; intro g w1 hg hf H) | (refine x_s ?_; intro w1 hf H)); (first | replace hf := hf.kp | clear hf)) )
           (go_ret; refine ⟨H.fr, ?_⟩; rw [HN.out]; exact ⟨rfl, _, rfl, H.get (.tail _ (.head _))⟩)
      ·have hne : zr = false := by
        rw [← hzr, flip hzc rfl]; rfl
       have HO : Hid (o = if d ∈ sFlds ∧ x ∈ sSyms then some ⟨false, sFlds.idxOf d, sSyms.idxOf x⟩ else none) := hid (by
        rw [HH.out]; unfold hdr5
        have e1 := flip hza rfl
        have e2 := flip hzb rfl
        have e3 := flip hzc rfl
        subst e1 e2 e3
        have e4 : ¬ sCoo = sArr := by decide
        simp [e4])
       subst hne
       clear hza hzb hzc hzr HH flip fno
       by_cases hd : d ∈ sFlds
       ·have hfl := flds_lt hd
        obtain ⟨f, hf⟩ : ∃ f, sFlds.idxOf d = f := ⟨_, rfl⟩
        have e3 : z3 = (f : Int) := by rw [← hz3]; unfold idxI; rw [if_pos hd, hf]
        rw [hf] at hfl
        subst e3
        clear hz3
        by_cases hx : x ∈ sSyms
        ·have hsl := syms_lt hx
         obtain ⟨y, hy⟩ : ∃ y, sSyms.idxOf x = y := ⟨_, rfl⟩
         have e4 : z4 = (y : Int) := by rw [← hz4]; unfold idxI; rw [if_pos hx, hy]
         rw [hy] at hsl
         subst e4
         clear hz4
         have HN : Hid (o = some ⟨false, f, y⟩) := hid (by rw [HO.out, if_pos ⟨hd, hx⟩, hf, hy])
         clear HO hd hx hf hy
         go_wp2_with (first | refine x_e (ev_strEqB rfl rfl rfl (by assumption)) ?_ | refine x_e (ev_strNeB rfl rfl rfl (by assumption)) ?_ | refine x_q H ?_ | refine x_cm (fun h => ?_) (fun h => ?_) | refine x_l H ?_ | refine x_e (ev_strLen rfl rfl) ?_ | refine x_e (c_ldc rfl rfl (by assumption)) ?_ | (revert H; (first | (refine x_g ?_; intro g w1 hg hf H) | (refine x_s ?_; intro w1 hf H)); (first | replace hf := hf.kp | clear hf)) )
         (revert H; refine w_p 8 (.st 0 (.st 1 (.st 2 (.st 3 (.st 4 (.ld 5 (.st 6 (.st 7 (.ld 8 .done))))))))) ?_; intro w1 H)
         iterate 5 refine p_q ?_
         ((refine p_c H rfl rfl Tryz.func43 (index_any _ sFlds d rfl (by decide) (HL.out.fr H.fr (by simp; omega) (by simp; omega)).1 HZ3) ?_; clear H; rintro e w1 ⟨rfl, hF⟩ H; refine p_r ?_; clear hF))
         iterate 2 refine p_q ?_
         (revert H; refine p_s ?_; intro w1 hf H; (first | replace hf := hf.kp | clear hf))
         (refine pl_done ?_)
         all_goals
          go_wp2_with (first | refine x_e (ev_strEqB rfl rfl rfl (by assumption)) ?_ | refine x_e (ev_strNeB rfl rfl rfl (by assumption)) ?_ | refine x_q H ?_ | refine x_cm (fun h => ?_) (fun h => ?_) | refine x_l H ?_ | refine x_e (ev_strLen rfl rfl) ?_ | refine x_e (c_ldc rfl rfl (by assumption)) ?_ | (revert H; (first | (refine x_g ?_; intro g w1 hg hf H) | (refine x_s ?_; intro w1 hf H)); (first | replace hf := hf.kp | clear hf)) )
          (revert H; refine w_p 8 (.st 0 (.st 1 (.st 2 (.st 3 (.st 4 (.ld 5 (.st 6 (.st 7 (.ld 8 .done))))))))) ?_; intro w1 H)
          iterate 5 refine p_q ?_
          ((refine p_c H rfl rfl Tryz.func43 (index_any _ sSyms x rfl (by decide) (HL.out.fr H.fr (by simp; omega) (by simp; omega)).2 HZ4) ?_; clear H; rintro e w1 ⟨rfl, hF⟩ H; refine p_r ?_; clear hF))
          iterate 2 refine p_q ?_
          (revert H; refine p_s ?_; intro w1 hf H; (first | replace hf := hf.kp | clear hf))
          (refine pl_done ?_)
          all_goals
           go_wp2_with (first | refine x_e (ev_strEqB rfl rfl rfl (by assumption)) ?_ | refine x_e (ev_strNeB rfl rfl rfl (by assumption)) ?_ | refine x_q H ?_ | refine x_cm (fun h => ?_) (fun h => ?_) | refine x_l H ?_ | refine x_e (ev_strLen rfl rfl) ?_ | refine x_e (c_ldc rfl rfl (by assumption)) ?_ | (revert H; (first | (refine x_g ?_; intro g w1 hg hf H) | (refine x_s ?_; intro w1 hf H)); (first | replace hf := hf.kp | clear hf)) )
           (go_ret; refine ⟨H.fr, ?_⟩; rw [HN.out]; exact ⟨rfl, H.get (.tail _ (.head _))⟩)
        ·have e4 : z4 = -1 := by rw [← hz4]; unfold idxI; rw [if_neg hx]
         have HN : Hid (o = none) := hid (by rw [HO.out, if_neg (by intro k; exact hx (by first | exact k.2 | exact k.2.1))])
         subst e4
         clear hz4 HO hd hx hf
         go_wp2_with (first | refine x_e (ev_strEqB rfl rfl rfl (by assumption)) ?_ | refine x_e (ev_strNeB rfl rfl rfl (by assumption)) ?_ | refine x_q H ?_ | refine x_cm (fun h => ?_) (fun h => ?_) | refine x_l H ?_ | refine x_e (ev_strLen rfl rfl) ?_ | refine x_e (c_ldc rfl rfl (by assumption)) ?_ | (revert H; (first | (refine x_g ?_; intro g w1 hg hf H) | (refine x_s ?_; intro w1 hf H)); (first | replace hf := hf.kp | clear hf)) )
         (revert H; refine w_p 8 (.st 0 (.st 1 (.st 2 (.st 3 (.st 4 (.ld 5 (.st 6 (.st 7 (.ld 8 .done))))))))) ?_; intro w1 H)
         iterate 5 refine p_q ?_
         ((refine p_c H rfl rfl Tryz.func43 (index_any _ sFlds d rfl (by decide) (HL.out.fr H.fr (by simp; omega) (by simp; omega)).1 HZ3) ?_; clear H; rintro e w1 ⟨rfl, hF⟩ H; refine p_r ?_; clear hF))
         iterate 2 refine p_q ?_
         (revert H; refine p_s ?_; intro w1 hf H; (first | replace hf := hf.kp | clear hf))
         (refine pl_done ?_)
         all_goals
          go_wp2_with (first | refine x_e (ev_strEqB rfl rfl rfl (by assumption)) ?_ | refine x_e (ev_strNeB rfl rfl rfl (by assumption)) ?_ | refine x_q H ?_ | refine x_cm (fun h => ?_) (fun h => ?_) | refine x_l H ?_ | refine x_e (ev_strLen rfl rfl) ?_ | refine x_e (c_ldc rfl rfl (by assumption)) ?_ | (revert H; (first | (refine x_g ?_; intro g w1 hg hf H) | (refine x_s ?_; intro w1 hf H)); (first | replace hf := hf.kp | clear hf)) )
          (revert H; refine w_p 8 (.st 0 (.st 1 (.st 2 (.st 3 (.st 4 (.ld 5 (.st 6 (.st 7 (.ld 8 .done))))))))) ?_; intro w1 H)
          iterate 5 refine p_q ?_
          ((refine p_c H rfl rfl Tryz.func43 (index_any _ sSyms x rfl (by decide) (HL.out.fr H.fr (by simp; omega) (by simp; omega)).2 HZ4) ?_; clear H; rintro e w1 ⟨rfl, hF⟩ H; refine p_r ?_; clear hF))
          iterate 2 refine p_q ?_
          (revert H; refine p_s ?_; intro w1 hf H; (first | replace hf := hf.kp | clear hf))
          (refine pl_done ?_)
          all_goals
           go_wp2_with (first | refine x_e (ev_strEqB rfl rfl rfl (by assumption)) ?_ | refine x_e (ev_strNeB rfl rfl rfl (by assumption)) ?_ | refine x_q H ?_ | refine x_cm (fun h => ?_) (fun h => ?_) | refine x_l H ?_ | refine x_e (ev_strLen rfl rfl) ?_ | refine x_e (c_ldc rfl rfl (by assumption)) ?_ | (revert H; (first | (refine x_g ?_; intro g w1 hg hf H) | (refine x_s ?_; intro w1 hf H)); (first | replace hf := hf.kp | clear hf)) )
           (go_ret; refine ⟨H.fr, ?_⟩; rw [HN.out]; exact ⟨rfl, _, rfl, H.get (.tail _ (.head _))⟩)
       ·have e3 : z3 = -1 := by rw [← hz3]; unfold idxI; rw [if_neg hd]
        have HN : Hid (o = none) := hid (by rw [HO.out, if_neg (fun k => hd k.1)])
        subst e3
        clear hz3 hz4 HO hd
        go_wp2_with (first | refine x_e (ev_strEqB rfl rfl rfl (by assumption)) ?_ | refine x_e (ev_strNeB rfl rfl rfl (by assumption)) ?_ | refine x_q H ?_ | refine x_cm (fun h => ?_) (fun h => ?_) | refine x_l H ?_ | refine x_e (ev_strLen rfl rfl) ?_ | refine x_e (c_ldc rfl rfl (by assumption)) ?_ | (revert H; (first | (refine x_g ?_; intro g w1 hg hf H) | (refine x_s ?_; intro w1 hf H)); (first | replace hf := hf.kp | clear hf)) )
        (revert H; refine w_p 8 (.st 0 (.st 1 (.st 2 (.st 3 (.st 4 (.ld 5 (.st 6 (.st 7 (.ld 8 .done))))))))) ?_; intro w1 H)
        iterate 5 refine p_q ?_
        ((refine p_c H rfl rfl Tryz.func43 (index_any _ sFlds d rfl (by decide) (HL.out.fr H.fr (by simp; omega) (by simp; omega)).1 HZ3) ?_; clear H; rintro e w1 ⟨rfl, hF⟩ H; refine p_r ?_; clear hF))
        iterate 2 refine p_q ?_
        (revert H; refine p_s ?_; intro w1 hf H; (first | replace hf := hf.kp | clear hf))
        (refine pl_done ?_)
        all_goals
         go_wp2_with (first | refine x_e (ev_strEqB rfl rfl rfl (by assumption)) ?_ | refine x_e (ev_strNeB rfl rfl rfl (by assumption)) ?_ | refine x_q H ?_ | refine x_cm (fun h => ?_) (fun h => ?_) | refine x_l H ?_ | refine x_e (ev_strLen rfl rfl) ?_ | refine x_e (c_ldc rfl rfl (by assumption)) ?_ | (revert H; (first | (refine x_g ?_; intro g w1 hg hf H) | (refine x_s ?_; intro w1 hf H)); (first | replace hf := hf.kp | clear hf)) )
         (revert H; refine w_p 8 (.st 0 (.st 1 (.st 2 (.st 3 (.st 4 (.ld 5 (.st 6 (.st 7 (.ld 8 .done))))))))) ?_; intro w1 H)
         iterate 5 refine p_q ?_
         ((refine p_c H rfl rfl Tryz.func43 (index_any _ sSyms x rfl (by decide) (HL.out.fr H.fr (by simp; omega) (by simp; omega)).2 HZ4) ?_; clear H; rintro e w1 ⟨rfl, hF⟩ H; refine p_r ?_; clear hF))
         iterate 2 refine p_q ?_
         (revert H; refine p_s ?_; intro w1 hf H; (first | replace hf := hf.kp | clear hf))
         (refine pl_done ?_)
         all_goals
          go_wp2_with (first | refine x_e (ev_strEqB rfl rfl rfl (by assumption)) ?_ | refine x_e (ev_strNeB rfl rfl rfl (by assumption)) ?_ | refine x_q H ?_ | refine x_cm (fun h => ?_) (fun h => ?_) | refine x_l H ?_ | refine x_e (ev_strLen rfl rfl) ?_ | refine x_e (c_ldc rfl rfl (by assumption)) ?_ | (revert H; (first | (refine x_g ?_; intro g w1 hg hf H) | (refine x_s ?_; intro w1 hf H)); (first | replace hf := hf.kp | clear hf)) )
          (go_ret; refine ⟨H.fr, ?_⟩; rw [HN.out]; exact ⟨rfl, _, rfl, H.get (.tail _ (.head _))⟩)
   ·have HN := hid (ho.out.symm.trans (hdr_not hws.out h5))
    have h5' : ¬ (ws.length : Int) = 5 := by omega
    clear HC2 h5
    go_wp2_with (first | refine x_e (ev_strEqB rfl rfl rfl (by assumption)) ?_ | refine x_e (ev_strNeB rfl rfl rfl (by assumption)) ?_ | refine x_q H ?_ | refine x_cm (fun h => ?_) (fun h => ?_) | refine x_l H ?_ | refine x_e (ev_strLen rfl rfl) ?_ | refine x_e (c_ldc rfl rfl (by assumption)) ?_ | (revert H; (first | (refine x_g ?_; intro g w1 hg hf H) | (refine x_s ?_; intro w1 hf H)); (first | replace hf := hf.kp | clear hf)) )
    go_ret
    refine ⟨H.fr, ?_⟩
    rw [HN.out]
    exact ⟨rfl, _, rfl, H.get (.tail _ (.head _))⟩
end Go.Proofs.YtomggcdmhflboaaGreatDoor
