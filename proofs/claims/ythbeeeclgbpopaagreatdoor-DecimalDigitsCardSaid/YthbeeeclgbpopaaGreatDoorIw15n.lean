/-
  The integers, a quotient in new memory: a magnitude divided by one limb.
-/
import Derived.Test.YthbeeeclgbpopaaGreatDoorIw33
import Derived.Deep.DeepCutAuto
import Derived.Deep.CutBlock
namespace Go.Proofs.YthbeeeclgbpopaaGreatDoor
open Go.RowKit
set_option linter.unusedSimpArgs false
set_option linter.unusedVariables false
set_option maxHeartbeats 4000000
set_option maxRecDepth 100000
set_option maxHeartbeats 8000000 in
theorem short_new {w : World} {p : Option Addr} {n c : Nat} (a : List Nat) (dv : Nat) (hn : a.length = n) (hn0 : n ≤ 1000000) (h : LR w p c a) (hd0 : 0 < dv) (hdB : dv < 4294967296) :
    Calls Tryz.prog 118 #[.slice p n c, .int .u32 (dv : Int)] w fun e w' => ∃ p' c', e = .returned (.tuple #[.slice p' (digs (val a / dv)).length c', .int .u32 ((val a % dv : Nat) : Int)]) ∧ Fr [] w w' ∧ LR w' p' c' (digs (val a / dv)) ∧ ∀ b off, p' = some ⟨b, off, none⟩ → w.heap.size ≤ b := by
  subst hn
  have Hh := hid h
  clear h
  have H := Hp.start [] w
  go_enter Tryz.func118, Tryz.ntmps118
  go_wp2_with (first | refine x_q H ?_ | refine x_cm (fun h => ?_) (fun h => ?_) | (revert H; (first | (refine x_g ?_; intro g w1 hg hf H) | (refine x_s ?_; intro w1 hf H)); (try clear hf)))
  rw [show ((a.length : Int)).toNat = a.length by omega, zeros_limbs] at H
  go_loopw [7, 8] (fun s7 s8 wr => ∃ (i r : Nat) (o : List Nat), i ≤ a.length ∧ s7 = .int .u64 r ∧ s8 = .int .i64 ((i : Int) - 1) ∧ r < dv ∧ Hid (o.length = a.length) ∧ Hid (Lim o) ∧ Hid (val (a.drop i) = dv * val (o.drop i) + r) ∧ Hp [] w wr [.blk g (limbs o) 99]) (fun _ v _ => (intOf v + 1).toNat)
  case atStart => exact ⟨a.length, 0, List.replicate a.length 0, Nat.le_refl _, rfl, rfl, hd0, hid List.length_replicate, hid (Lim.zeros _), hid (by rw [List.drop_eq_nil_of_le (Nat.le_refl _), List.drop_eq_nil_of_le (by rw [List.length_replicate]; exact Nat.le_refl _)]; simp [val]), H⟩
  case round =>
    clear H
    obtain ⟨i, r, o, hi, rfl, rfl, hr, Hol, Hlo, Hv, H⟩ := hrel
    by_cases h0 : i = 0
    · have HV : Hid (val a = dv * val o + r) := hid (by
        have := Hv.out
        rwa [h0, List.drop_zero, List.drop_zero] at this)
      have h0' : (i : Int) - 1 < 0 := by omega
      clear h0
      go_wp2_with (first | refine x_q H ?_ | refine x_cm (fun h => ?_) (fun h => ?_) | (revert H; (first | (refine x_g ?_; intro g w1 hg hf H) | (refine x_s ?_; intro w1 hf H)); (try clear hf)))
      have hL : LR _ (some ⟨g, 0, none⟩) a.length o := LR.of_blk (pad := []) (by rw [List.append_nil]; exact H.at g) Hlo.out (by rw [Hol.out]; exact Nat.le_refl _) (by unfold maxLen; omega)
      have HL := hid hL
      have HQ : Hid (val o = val a / dv) := hid (by rw [HV.out, Nat.mul_add_div hd0, Nat.div_eq_of_lt hr, Nat.add_zero])
      have HR : Hid (val a % dv = r) := hid (by rw [HV.out, Nat.mul_add_mod, Nat.mod_eq_of_lt hr])
      refine Calls.mono (trim_any o Hol.out HL.out) ?_
      rintro e w1 ⟨rfl, hF⟩
      have HL2 := hid (hL.fr hF).trim
      have H1 := H.step hF (by simp)
      clear H hF hL HL
      have H := H1
      clear H1
      go_wp2_with (first | refine x_q H ?_ | refine x_cm (fun h => ?_) (fun h => ?_) | (revert H; (first | (refine x_g ?_; intro g w1 hg hf H) | (refine x_s ?_; intro w1 hf H)); (try clear hf)))
      refine bodyPost_ret (results_tmp2 rfl _ _ _) rfl ?_
      rw [HQ.out] at HL2
      exact ⟨_, _, by rw [HQ.out, HR.out]; rfl, H.fr, HL2.out, fun b off e => by cases e; exact hg.1⟩
    · obtain ⟨j, rfl⟩ : ∃ j, i = j + 1 := ⟨i - 1, by omega⟩
      obtain ⟨x, hx⟩ : ∃ x, a[j]? = some x := ⟨_, List.getElem?_eq_getElem (by omega)⟩
      have hxv := limbs_at hx
      have hxB := Hh.out.lim.at hx
      have Hx := hid hx
      clear hx h0
      obtain ⟨b0, off, rfl, hb0, hcell⟩ := Hh.out.rd.rng (limbs_ne (i := j) (by omega))
      have H1 := H.pushRng (b := b0) (off := off) hb0 (by simp) hcell
      clear H hcell
      have H := H1
      clear H1
      have e1 : (((j + 1 : Nat) : Int) - 1) = (j : Int) := by omega
      rw [e1]
      clear e1
      have hjo : j < o.length := by rw [Hol.out]; omega
      obtain ⟨ov, hov⟩ : ∃ ov, o[j]? = some ov := ⟨_, List.getElem?_eq_getElem hjo⟩
      have hovv := limbs_at hov
      have hlim := short_limb hr hxB
      have Hlim := hid hlim
      clear hov hlim
      go_wp2_with (first | refine x_q H ?_ | refine x_cm (fun h => ?_) (fun h => ?_) | refine x_e (ev_over rfl rfl) ?_ | refine x_e (ev_orJ rfl rfl rfl) ?_ | (revert H; (first | (refine x_g ?_; intro g w1 hg hf H) | (refine x_s ?_; intro w1 hf H)); (try clear hf)))
      have e1 : ((r : Int) * 4294967296 + (x : Int)) / (dv : Int) % 4294967296 = (((r * 4294967296 + x) / dv : Nat) : Int) := by
        have e2 : ((r : Int) * 4294967296 + (x : Int)) / (dv : Int) = (((r * 4294967296 + x) / dv : Nat) : Int) := by rw [Int.natCast_ediv]; congr 1
        rw [e2]
        have h := Hlim.out
        generalize (r * 4294967296 + x) / dv = q at h ⊢
        omega
      have e3 : ((r : Int) * 4294967296 + (x : Int)) % (dv : Int) = (((r * 4294967296 + x) % dv : Nat) : Int) := by rw [Int.natCast_emod]; congr 1
      rw [e1, limbs_set] at H
      rw [e3]
      go_roundw
      case rel => exact ⟨j, (r * 4294967296 + x) % dv, o.set j ((r * 4294967296 + x) / dv), by omega, rfl, rfl, Nat.mod_lt _ hd0, hid (by rw [List.length_set]; exact Hol.out), hid (Hlo.out.set _ Hlim.out), hid (by rw [drop_set _ _ _ hjo, drop_cons_at Hx.out]; simp only [val]; exact short_round Hv.out), H.sub (by repeat first | exact List.Sublist.refl _ | exact List.nil_sublist _ | apply List.Sublist.cons_cons | apply List.Sublist.cons)⟩
      case measure => (simp [intOf]; try omega)
end Go.Proofs.YthbeeeclgbpopaaGreatDoor
