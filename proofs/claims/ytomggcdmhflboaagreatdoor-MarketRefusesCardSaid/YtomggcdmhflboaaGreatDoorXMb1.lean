import Derived.Test.YtomggcdmhflboaaGreatDoorXMb0
import Derived.Test.YtomggcdmhflboaaGreatDoorXPd1
import Derived.Test.YtomggcdmhflboaaGreatDoorXMd0
namespace Go.Proofs.YtomggcdmhflboaaGreatDoor
open Go.RowKit
set_option linter.unusedSimpArgs false
set_option linter.unusedVariables false
set_option maxHeartbeats 8000000
set_option maxRecDepth 100000
def failV (line code : Int) : List PanicEntry := [{ v := .iface 48 (.agg #[.int .i64 line, .int .i64 code]), recovered := false }]
theorem demand_ok (w : World) (g : Nat) (code : Int) : Calls Tryz.prog 19 #[.pointer (some ⟨g, 0, none⟩), .bool true, .int .i64 code] w fun e w' => e = .returned (.tuple #[]) ∧ Fr [] w w' := by
 have H := Hp.start [] w
 go_enter Tryz.func19, Tryz.ntmps19
 go_wp2_with fail
 go_end0
 exact ⟨rfl, H.fr⟩
theorem demand_bad (w : World) (g : Nat) (code n : Int) (hc : w.cell? ⟨g, 1, none⟩ = some (.int .i64 n)) : Calls Tryz.prog 19 #[.pointer (some ⟨g, 0, none⟩), .bool false, .int .i64 code] w fun e w' => e = .panicked (failV n code) ∧ Fr [] w w' := by
 have H := Hp.start [] w
 go_enter Tryz.func19, Tryz.ntmps19
 go_wp2_with (first | refine x_q H ?_ | refine x_e (c_ldc rfl rfl (by assumption)) ?_)
 exact ⟨rfl, rfl, H.fr⟩
structure RdrAt (g b c : Nat) (Ls : List (List UInt8)) (i : Nat) (w : World) : Prop where
 hg : w.heap[g]? = some (.cells #[.slice (some ⟨b, 0, none⟩) Ls.length c, .int .i64 (i : Int)] 51 (0, 0))
 hne : b ≠ g
 hb : b < w.heap.size
 hc : ∀ j s, Ls[j]? = some s → w.cell? ⟨b, j, none⟩ = some (strV s)
 hN : Ls.length ≤ 2000000
 hl : ∀ s ∈ Ls, s.length ≤ 2000000
theorem RdrAt.fr {g b c : Nat} {Ls : List (List UInt8)} {i i' : Nat} {w w' : World} (h : RdrAt g b c Ls i w) (k : Fr [g] w w') (hg : w'.heap[g]? = some (.cells #[.slice (some ⟨b, 0, none⟩) Ls.length c, .int .i64 (i' : Int)] 51 (0, 0))) : RdrAt g b c Ls i' w' :=
 ⟨hg, h.hne, Nat.lt_of_lt_of_le h.hb k.size, fun j s hj => k.cell (h.hc j s hj) (by simp; exact h.hne), h.hN, h.hl⟩
theorem RdrAt.hp {g b c : Nat} {Ls : List (List UInt8)} {i : Nat} {w : World} (h : RdrAt g b c Ls i w) : Hp [g] w w [.blk g [.slice (some ⟨b, 0, none⟩) Ls.length c, .int .i64 (i : Int)] 51, .rng b 0 (Ls.map strV)] :=
 ((Hp.start [g] w).pushRng h.hb (by simp; exact h.hne) (by
  intro j u hj
  rw [List.getElem?_map, Option.map_eq_some_iff] at hj
  obtain ⟨s, hs, rfl⟩ := hj
  rw [Nat.zero_add]
  exact h.hc j s hs)).push h.hg (.inl (by simp)) (by simp [Ent.own])
set_option maxHeartbeats 16000000 in
theorem line_any {g b c i : Nat} {Ls : List (List UInt8)} {w : World} (hR : RdrAt g b c Ls i w) (hi : i ≤ Ls.length + 1) :
  Calls Tryz.prog 23 #[.pointer (some ⟨g, 0, none⟩)] w fun e w' => ∃ v i', e = .returned v ∧ Fr [g] w w' ∧ RdrAt g b c Ls i' w' ∧
   ((sig i (Ls.drop i) = [] ∧ v = .slice none 0 0 ∧ i' = Ls.length + 1) ∨
    (∃ ws r q, sig i (Ls.drop i) = (i', ws) :: r ∧ v = .slice (some ⟨q, 0, none⟩) ws.length ws.length ∧ w.heap.size ≤ q ∧ w'.heap[q]? = some (.cells (ws.map strV).toArray 9 (0, 0)))) := by
 have H := hR.hp
 have HR := hid hR
 have HN := hR.hN
 go_enter Tryz.func23, Tryz.ntmps23
 go_wp2_with fail
 go_loopw [] (fun wr => ∃ k : Nat, k ≤ Ls.length + 1 ∧ Hid (sig i (Ls.drop i) = sig k (Ls.drop k)) ∧ Hp [g] w wr [.blk g [.slice (some ⟨b, 0, none⟩) Ls.length c, .int .i64 (k : Int)] 51, .rng b 0 (Ls.map strV)]) (fun wr => Ls.length + 2 - (intOf ((wr.cell? ⟨g, 1, none⟩).getD undef)).toNat)
 case atStart => exact ⟨i, hi, hid rfl, H⟩
 case round =>
  clear H
  obtain ⟨k, hk, HS, H⟩ := hrel
  have hcell0 := H.blkCell (.head _) (o := 1) (v := .int .i64 (k : Int)) rfl
  have HC0 := hid hcell0
  clear hcell0
  by_cases hlt : k < Ls.length
  ·obtain ⟨s, hs⟩ : ∃ s, Ls[k]? = some s := ⟨_, List.getElem?_eq_getElem hlt⟩
   have hsv : (Ls.map strV)[k]? = some (strV s) := by rw [List.getElem?_map, hs]; rfl
   have hsl := HR.out.hl s (List.mem_of_getElem? hs)
   obtain ⟨ws, hws0⟩ : ∃ ws, mwords s = ws := ⟨_, rfl⟩
   have hws := hid hws0
   have hwc := mwords_count s
   rw [hws0] at hwc
   cases hw : ws with
   | nil =>
    have HS2 := hid (show sig i (Ls.drop i) = sig (k + 1) (Ls.drop (k + 1)) by rw [HS.out]; exact sig_skip hs (by rw [hws0, hw]; rfl))
    subst hw
    clear HS hws0 hwc
    go_wp2_with fail
    (revert H; refine w_p 10 (.st 0 (.st 1 (.st 2 (.st 3 (.st 4 (.st 5 (.st 6 (.st 7 (.st 8 (.st 9 .done)))))))))) ?_; intro w1 H)
    iterate 10 refine p_q ?_
    (refine pl_done ?_)
    all_goals
     go_wp2_with fail
     (revert H; refine w_p 12 (.st 0 (.st 1 (.st 2 (.st 3 (.st 4 (.st 5 (.st 6 (.st 7 (.st 8 (.st 9 (.ld 10 (.st 11 .done)))))))))))) ?_; intro w1 H)
     iterate 10 refine p_q ?_
     ((have H0 := H; refine p_c H rfl rfl Tryz.func41 (words_is _ hws (by omega)) ?_; clear H; rintro e w1 ⟨q, rfl, hF, hq, hc⟩ H; clear H; have HQ := hid (Nat.le_trans H0.fr.size hq); have H := H0.bornB hF hq hc; clear H0; refine p_r ?_; clear hF hq hc))
     refine p_q ?_
     (refine pl_done ?_)
     all_goals
      go_wp2_with (first | refine x_q H ?_ | (revert H; refine x_s ?_; intro w1 hf H; clear hf))
      go_roundw
      case rel => exact ⟨k + 1, by omega, HS2, H.sub (by repeat first | exact List.Sublist.refl _ | exact List.nil_sublist _ | apply List.Sublist.cons_cons | apply List.Sublist.cons)⟩
      case measure =>
       have hcell1 := H.blkCell (.tail _ (.head _)) (o := 1) (v := .int .i64 ((k : Int) + 1)) rfl
       rw [hcell1, HC0.out]
       simp [intOf]
       omega
   | cons x r =>
    have hx0 : x ≠ [] := mwords_ne (s := s) (by rw [hws0, hw]; simp)
    obtain ⟨y, t, hyt⟩ := List.exists_cons_of_ne_nil hx0
    have HY := hid (show x[0]? = some y by rw [hyt]; rfl)
    obtain ⟨n, hn⟩ : ∃ n, y.toNat = n := ⟨_, rfl⟩
    have hsk : skip ws = (y == 37) := by rw [hw, hyt]; unfold skip; simp
    clear hx0
    by_cases h37 : n = 37
    ·have HS2 := hid (show sig i (Ls.drop i) = sig (k + 1) (Ls.drop (k + 1)) by
      rw [HS.out]; refine sig_skip hs ?_
      rw [hws0, hsk, beq_iff_eq]
      exact UInt8.toNat_inj.1 (by rw [hn, h37]; rfl))
     subst h37
     subst hw
     clear HS hws0 hwc hsk hyt
     go_wp2_with fail
     (revert H; refine w_p 10 (.st 0 (.st 1 (.st 2 (.st 3 (.st 4 (.st 5 (.st 6 (.st 7 (.st 8 (.st 9 .done)))))))))) ?_; intro w1 H)
     iterate 10 refine p_q ?_
     (refine pl_done ?_)
     all_goals
      go_wp2_with fail
      (revert H; refine w_p 12 (.st 0 (.st 1 (.st 2 (.st 3 (.st 4 (.st 5 (.st 6 (.st 7 (.st 8 (.st 9 (.ld 10 (.st 11 .done)))))))))))) ?_; intro w1 H)
      iterate 10 refine p_q ?_
      ((have H0 := H; refine p_c H rfl rfl Tryz.func41 (words_is _ hws (by omega)) ?_; clear H; rintro e w1 ⟨q, rfl, hF, hq, hc⟩ H; clear H; have HQ := hid (Nat.le_trans H0.fr.size hq); have H := H0.bornB hF hq hc; clear H0; refine p_r ?_; clear hF hq hc))
      refine p_q ?_
      (refine pl_done ?_)
      all_goals
       go_wp2_with (first | refine x_q H ?_ | (revert H; refine x_s ?_; intro w1 hf H; clear hf) | refine x_e (ev_strIdx rfl rfl rfl (by decide) HY.out) ?_)
       go_roundw
       case rel => exact ⟨k + 1, by omega, HS2, H.sub (by repeat first | exact List.Sublist.refl _ | exact List.nil_sublist _ | apply List.Sublist.cons_cons | apply List.Sublist.cons)⟩
       case measure =>
        have hcell1 := H.blkCell (.tail _ (.head _)) (o := 1) (v := .int .i64 ((k : Int) + 1)) rfl
        rw [hcell1, HC0.out]
        simp [intOf]
        omega
    ·have HS2 := hid (show sig i (Ls.drop i) = (k + 1, ws) :: sig (k + 1) (Ls.drop (k + 1)) by
      rw [HS.out, ← hws0]; refine sig_take hs ?_
      rw [hws0, hsk]
      refine beq_false_of_ne fun e => h37 ?_
      rw [← hn, e]; rfl)
     have h37' : ¬ (n : Int) = 37 := by omega
     subst hw
     clear HS hws0 hwc hsk hyt h37
     go_wp2_with fail
     (revert H; refine w_p 10 (.st 0 (.st 1 (.st 2 (.st 3 (.st 4 (.st 5 (.st 6 (.st 7 (.st 8 (.st 9 .done)))))))))) ?_; intro w1 H)
     iterate 10 refine p_q ?_
     (refine pl_done ?_)
     all_goals
      go_wp2_with fail
      (revert H; refine w_p 12 (.st 0 (.st 1 (.st 2 (.st 3 (.st 4 (.st 5 (.st 6 (.st 7 (.st 8 (.st 9 (.ld 10 (.st 11 .done)))))))))))) ?_; intro w1 H)
      iterate 10 refine p_q ?_
      ((have H0 := H; refine p_c H rfl rfl Tryz.func41 (words_is _ hws (by omega)) ?_; clear H; rintro e w1 ⟨q, rfl, hF, hq, hc⟩ H; clear H; have HQ := hid (Nat.le_trans H0.fr.size hq); have H := H0.bornB hF hq hc; clear H0; refine p_r ?_; clear hF hq hc))
      refine p_q ?_
      (refine pl_done ?_)
      all_goals
       go_wp2_with (first | refine x_q H ?_ | (revert H; refine x_s ?_; intro w1 hf H; clear hf) | refine x_e (ev_strIdx rfl rfl rfl (by decide) HY.out) ?_)
       go_ret
       exact ⟨_, k + 1, rfl, H.fr, HR.out.fr H.fr (H.get (.tail _ (.head _))), .inr ⟨x :: r, _, q, HS2.out, rfl, HQ.out, H.get (.head _)⟩⟩
  ·have HS2 := hid (show sig i (Ls.drop i) = [] by rw [HS.out]; exact sig_out (by omega))
   clear HS
   go_wp2_with fail
   (revert H; refine w_p 10 (.st 0 (.st 1 (.st 2 (.st 3 (.st 4 (.st 5 (.st 6 (.st 7 (.st 8 (.st 9 .done)))))))))) ?_; intro w1 H)
   iterate 10 refine p_q ?_
   (refine pl_done ?_)
   all_goals
    go_wp2_with (first | refine x_q H ?_ | (revert H; refine x_s ?_; intro w1 hf H; clear hf))
    go_ret
    exact ⟨_, Ls.length + 1, rfl, H.fr, HR.out.fr H.fr (H.get (.head _)), .inl ⟨HS2.out, rfl, rfl⟩⟩
end Go.Proofs.YtomggcdmhflboaaGreatDoor
