/-
  The law's forests: Forest.
-/
import Derived.Test.YthlhjjokodmihaaPf1
import Derived.Deep.DeepCutAuto
import Derived.Deep.CutBlock
namespace Go.Proofs.Ythlhjjokodmihaa
open Go.RowKit
set_option linter.unusedSimpArgs false
set_option linter.unusedVariables false
theorem check_zero {par own : List Int} {k : Nat} (h1 : par.length ≤ 200) (h2 : ∀ (t : Nat) (p : Int), par[t]? = some p → p = -1 ∨ ((t : Int) < p ∧ p < par.length)) (h3 : 1 ≤ k) (h4 : k ≤ 8) (h5 : own.length = par.length) (h6 : ∀ (t : Nat) (o : Int), own[t]? = some o → 0 ≤ o ∧ o < k) : checkP par own k = 0 := by
  unfold checkP
  rw [if_neg (by omega)]
  have hb : badPar par = false := any_no (fun i hi => by
    obtain ⟨p, hp⟩ : ∃ p, par[i]? = some p := ⟨_, List.getElem?_eq_getElem hi⟩
    unfold badP
    rw [hp, Option.getD_some]
    rcases h2 i p hp with rfl | ⟨h, h'⟩
    · rfl
    · rw [decide_eq_false (by omega), decide_eq_false (by omega)]; simp)
  have ho : badOwn own k = false := any_no (fun i hi => by
    obtain ⟨o, ho⟩ : ∃ o, own[i]? = some o := ⟨_, List.getElem?_eq_getElem hi⟩
    unfold badO
    rw [ho, Option.getD_some]
    have := h6 i o ho
    rw [decide_eq_false (by omega), decide_eq_false (by omega)]; rfl)
  rw [hb, if_neg (by decide), if_neg (by omega), if_neg (by omega), ho]
  rfl
theorem snocAt {α : Type} {l : List α} {i : Nat} {x y : α} (h : (l ++ [x])[i]? = some y) : (i = l.length ∧ y = x) ∨ l[i]? = some y := by
  by_cases e : i < l.length
  · rw [List.getElem?_append_left e] at h; exact .inr h
  · rw [List.getElem?_append_right (by omega)] at h
    by_cases e2 : i = l.length
    · subst e2; simp at h; exact .inl ⟨rfl, h.symm⟩
    · rw [List.getElem?_eq_none (by simp; omega)] at h; cases h
theorem ints_snoc (l : List Int) (x : Int) : ints (l ++ [x]) = ints l ++ [.int .i64 x] := by simp [ints]
section
variable {P : Program} {a : Act} {w : World} {o : Oper}
theorem ev_shr32 {t t' : TypeId} {x : Operand} (ho : o.op = .binOp .shr t x (.const (.int .u64 32)) t') {n : Int} (hx : a.eval x = .int .u64 n) : (execOp a.eval o).run P w = .ok (.value (.int .u64 (n / 4294967296))) w := by
  have e : (eqGuard .shr t x (.const (.int .u64 32)) (.int .u64 n) (.int .u64 32)).run P w = .ok () w := rfl
  have hn : a.eval (.const (.int .u64 32)) = .int .u64 32 := rfl
  have hs : binOp .shr t (.int .u64 n) (.int .u64 32) = Op.shift .shr .u64 n .u64 32 := rfl
  unfold execOp
  simp only [ho, hx, hn, Sem.run_bind, e, Result.andThen_ok, hs, shift_shr_any .u64 .u64 n 32 (by decide), Sem.run_pure]
  rfl
end
set_option maxHeartbeats 40000000 in
set_option maxRecDepth 100000 in
theorem forest_any {w : World} {v : Value} (raw : List Int) (n0 k0 : Int) (hr : SArg w v raw.length (u64s raw)) (hb : ∀ x ∈ raw, 0 ≤ x ∧ x < 18446744073709551616) :
    Calls Try.prog 12 #[v, .int .i64 n0, .int .i64 k0] w fun e w' => ∃ (par own : List Int) (k g1 c1 g2 c2 : Nat) (pad1 pad2 : List Value), e = .returned (.tuple #[.slice (some ⟨g1, 0, none⟩) par.length c1, .slice (some ⟨g2, 0, none⟩) par.length c2, .int .i64 k]) ∧ Fr [] w w' ∧
      (Hp [] w w' [.blk g1 (ints par ++ pad1) 3, .blk g2 (ints own ++ pad2) 3]) ∧ own.length = par.length ∧ par.length ≤ 10 ∧ 1 ≤ k ∧ k ≤ 4 ∧ checkP par own k = 0 := by
  have Hr := hid hr
  have Hb := hid hb
  obtain ⟨p, c, rfl, hpn, hlc, hcm, hrd⟩ := hr
  clear hpn hlc hcm hrd hb
  obtain ⟨n, hn, hn11⟩ := mod_nat n0 11 (by omega)
  obtain ⟨k1, hk, hk4⟩ := mod_nat k0 4 (by omega)
  have Hn : Hid (n0 % 18446744073709551616 % 11 = (n : Int)) := hid hn
  have Hk : Hid (k0 % 18446744073709551616 % 4 = (k1 : Int)) := hid hk
  clear hn hk
  obtain ⟨k, hkk⟩ : ∃ k : Nat, k = 1 + k1 := ⟨_, rfl⟩
  have Hkk : Hid ((1 : Int) + (k1 : Int) = (k : Int)) := hid (by omega)
  have hk1 : 1 ≤ k := by omega
  have hk2 : k ≤ 4 := by omega
  clear hkk
  have H := Hp.start [] w
  go_enter Try.func12, Try.ntmps12
  go_wp2_with (first | ((first | (refine is_cmp rfl rfl ?_; first | (refine wl_ev rfl (by first | exact ev_cmpT rfl rfl rfl rfl | exact ev_cmpF rfl rfl rfl rfl) ?_) | (refine wl_cmp rfl rfl rfl rfl rfl (fun h => ?_) (fun h => ?_) <;> (simp only [cmpP] at h))) | (refine is_bin (op := .rem) rfl ?_; refine wl_ev rfl (ev_rem rfl rfl rfl) ?_)   ) <;> (simp only [nrm, ↓reduceIte, Nat.reduceAdd])) | (refine is_conv rfl ?_; first | fail | (refine wl_ev rfl (by first | exact c_cv rfl rfl | exact c_cv64 rfl rfl | exact c_cv32 rfl rfl | exact c_cv8 rfl rfl) ?_; (simp only [nrm, ↓reduceIte, Nat.reduceAdd]))) | ((first | (refine is_buildSlice rfl ?_; first | (refine wl_rw rfl (fun K hK => c_s1t H rfl rfl rfl (h := (fun g w1 hg hf H1 => hK _ _ ?_)))) | (refine wl_rw rfl (fun K hK => c_s1c H rfl rfl (h := (fun g w1 hg hf H1 => hK _ _ ?_)))))   ); (clear hK K); (clear H; have H := H1; clear H1; (try dsimp only at H); (try clear hf)); (simp only [nrm, ↓reduceIte, Nat.reduceAdd])))
  (refine Calls.mono (mod_fr n0 11 _ (by omega) (by omega)) ?_; rintro e w1 ⟨rfl, hF⟩; have H1 := H.step hF (by simp); clear H; have H := H1; clear H1)
  rw [Hn.out]
  go_wp2_with (first | ((first | (refine is_cmp rfl rfl ?_; first | (refine wl_ev rfl (by first | exact ev_cmpT rfl rfl rfl rfl | exact ev_cmpF rfl rfl rfl rfl) ?_) | (refine wl_cmp rfl rfl rfl rfl rfl (fun h => ?_) (fun h => ?_) <;> (simp only [cmpP] at h))) | (refine is_bin (op := .rem) rfl ?_; refine wl_ev rfl (ev_rem rfl rfl rfl) ?_)   ) <;> (simp only [nrm, ↓reduceIte, Nat.reduceAdd])) | (refine is_conv rfl ?_; first | fail | (refine wl_ev rfl (by first | exact c_cv rfl rfl | exact c_cv64 rfl rfl | exact c_cv32 rfl rfl | exact c_cv8 rfl rfl) ?_; (simp only [nrm, ↓reduceIte, Nat.reduceAdd]))) | ((first | (refine is_buildSlice rfl ?_; first | (refine wl_rw rfl (fun K hK => c_s1t H rfl rfl rfl (h := (fun g w1 hg hf H1 => hK _ _ ?_)))) | (refine wl_rw rfl (fun K hK => c_s1c H rfl rfl (h := (fun g w1 hg hf H1 => hK _ _ ?_)))))   ); (clear hK K); (clear H; have H := H1; clear H1; (try dsimp only at H); (try clear hf)); (simp only [nrm, ↓reduceIte, Nat.reduceAdd])))
  (refine Calls.mono (mod_fr k0 4 _ (by omega) (by omega)) ?_; rintro e w1 ⟨rfl, hF⟩; have H1 := H.step hF (by simp); clear H; have H := H1; clear H1)
  rw [Hk.out]
  go_upto_region 2 with (first | ((first | (refine is_cmp rfl rfl ?_; first | (refine wl_ev rfl (by first | exact ev_cmpT rfl rfl rfl rfl | exact ev_cmpF rfl rfl rfl rfl) ?_) | (refine wl_cmp rfl rfl rfl rfl rfl (fun h => ?_) (fun h => ?_) <;> (simp only [cmpP] at h))) | (refine is_bin (op := .rem) rfl ?_; refine wl_ev rfl (ev_rem rfl rfl rfl) ?_)   ) <;> (simp only [nrm, ↓reduceIte, Nat.reduceAdd])) | (refine is_conv rfl ?_; first | fail | (refine wl_ev rfl (by first | exact c_cv rfl rfl | exact c_cv64 rfl rfl | exact c_cv32 rfl rfl | exact c_cv8 rfl rfl) ?_; (simp only [nrm, ↓reduceIte, Nat.reduceAdd]))) | ((first | (refine is_buildSlice rfl ?_; first | (refine wl_rw rfl (fun K hK => c_s1t H rfl rfl rfl (h := (fun g w1 hg hf H1 => hK _ _ ?_)))) | (refine wl_rw rfl (fun K hK => c_s1c H rfl rfl (h := (fun g w1 hg hf H1 => hK _ _ ?_)))))   ); (clear hK K); (clear H; have H := H1; clear H1; (try dsimp only at H); (try clear hf)); (simp only [nrm, ↓reduceIte, Nat.reduceAdd])))
  rw [Hkk.out]
  go_cut [9, 10] (fun s9 s10 wx => ∃ g1 g2 : Nat, s9 = .slice (some ⟨g1, 0, none⟩) 0 0 ∧ s10 = .slice (some ⟨g2, 0, none⟩) 0 0 ∧ Hp [] w wx [.blk g1 [] 3, .blk g2 [] 3])
  case first =>
    go_wp2_with (first | ((first | (refine is_cmp rfl rfl ?_; first | (refine wl_ev rfl (by first | exact ev_cmpT rfl rfl rfl rfl | exact ev_cmpF rfl rfl rfl rfl) ?_) | (refine wl_cmp rfl rfl rfl rfl rfl (fun h => ?_) (fun h => ?_) <;> (simp only [cmpP] at h))) | (refine is_bin (op := .rem) rfl ?_; refine wl_ev rfl (ev_rem rfl rfl rfl) ?_)   ) <;> (simp only [nrm, ↓reduceIte, Nat.reduceAdd])) | (refine is_conv rfl ?_; first | fail | (refine wl_ev rfl (by first | exact c_cv rfl rfl | exact c_cv64 rfl rfl | exact c_cv32 rfl rfl | exact c_cv8 rfl rfl) ?_; (simp only [nrm, ↓reduceIte, Nat.reduceAdd]))) | ((first | (refine is_buildSlice rfl ?_; first | (refine wl_rw rfl (fun K hK => c_s1t H rfl rfl rfl (h := (fun g w1 hg hf H1 => hK _ _ ?_)))) | (refine wl_rw rfl (fun K hK => c_s1c H rfl rfl (h := (fun g w1 hg hf H1 => hK _ _ ?_)))))   ); (clear hK K); (clear H; have H := H1; clear H1; (try dsimp only at H); (try clear hf)); (simp only [nrm, ↓reduceIte, Nat.reduceAdd])) | (refine is_buildSlice rfl ?_; refine wl_rw rfl (fun K hK => c_sN H rfl (by repeat first | exact .nil _ | apply Parts.tmp (by rfl) (by rfl) | apply Parts.con (by rfl)) rfl (by intro c hc; simp only [List.mem_cons, List.not_mem_nil, or_false] at hc; (try (rcases hc with rfl | rfl | rfl | rfl | rfl | rfl | rfl | rfl <;> rfl))) (by decide) (by decide) (fun g w1 hg hf H1 => hK _ _ ?_)); (clear hK K); (clear H; have H := H1; clear H1; (try dsimp only at H); (try clear hf)); (simp only [nrm, ↓reduceIte, Nat.reduceAdd])))
    go_meet
    case rel =>
      refine ⟨_, _, rfl, rfl, ?_⟩
      (refine Hp.arr H ?_; repeat (first | exact Pm.nil _ | (apply Pm.cons; · (repeat first | exact Rm.here _ | apply Rm.there))))
  case rest =>
    clear H
    obtain ⟨g1, g2, rfl, rfl, H⟩ := hcut
    go_wp2_with (first | ((first | (refine is_cmp rfl rfl ?_; first | (refine wl_ev rfl (by first | exact ev_cmpT rfl rfl rfl rfl | exact ev_cmpF rfl rfl rfl rfl) ?_) | (refine wl_cmp rfl rfl rfl rfl rfl (fun h => ?_) (fun h => ?_) <;> (simp only [cmpP] at h))) | (refine is_bin (op := .rem) rfl ?_; refine wl_ev rfl (ev_rem rfl rfl rfl) ?_)   ) <;> (simp only [nrm, ↓reduceIte, Nat.reduceAdd])) | (refine is_conv rfl ?_; first | fail | (refine wl_ev rfl (by first | exact c_cv rfl rfl | exact c_cv64 rfl rfl | exact c_cv32 rfl rfl | exact c_cv8 rfl rfl) ?_; (simp only [nrm, ↓reduceIte, Nat.reduceAdd]))) | ((first | (refine is_buildSlice rfl ?_; first | (refine wl_rw rfl (fun K hK => c_s1t H rfl rfl rfl (h := (fun g w1 hg hf H1 => hK _ _ ?_)))) | (refine wl_rw rfl (fun K hK => c_s1c H rfl rfl (h := (fun g w1 hg hf H1 => hK _ _ ?_)))))   ); (clear hK K); (clear H; have H := H1; clear H1; (try dsimp only at H); (try clear hf)); (simp only [nrm, ↓reduceIte, Nat.reduceAdd])))
    go_loopw [9, 10, 11] (fun s9 s10 s11 wr => ∃ (i g1 c1 g2 c2 : Nat) (P O : List Int) (pad1 pad2 : List Value), i ≤ n ∧ s11 = .int .i64 i ∧ s9 = .slice (some ⟨g1, 0, none⟩) i c1 ∧ s10 = .slice (some ⟨g2, 0, none⟩) i c2 ∧ Hid (P.length = i ∧ O.length = i ∧ (∀ (t : Nat) (p : Int), P[t]? = some p → p = -1 ∨ ((t : Int) < p ∧ p < n)) ∧ ∀ (t : Nat) (o : Int), O[t]? = some o → 0 ≤ o ∧ o < k) ∧ Hid ((ints P ++ pad1).length = c1 * 1) ∧ Hid ((ints O ++ pad2).length = c2 * 1) ∧ c1 ≤ maxLen ∧ c2 ≤ maxLen ∧ Hp [] w wr [.blk g1 (ints P ++ pad1) 3, .blk g2 (ints O ++ pad2) 3]) (fun _ _ u _ => n - (intOf u).toNat)
    case atStart => exact ⟨0, g1, 0, g2, 0, [], [], [], [], Nat.zero_le _, rfl, rfl, rfl, hid ⟨rfl, rfl, by simp, by simp⟩, hid rfl, hid rfl, Nat.zero_le _, Nat.zero_le _, H⟩
    case round =>
      clear H
      obtain ⟨i, g1, c1, g2, c2, P, O, pad1, pad2, hi, rfl, rfl, rfl, HPO, Hl1, Hl2, hc1, hc2, H⟩ := hrel
      by_cases hin : i < n
      · go_wp2_with (first | ((first | (refine is_cmp rfl rfl ?_; first | (refine wl_ev rfl (by first | exact ev_cmpT rfl rfl rfl rfl | exact ev_cmpF rfl rfl rfl rfl) ?_) | (refine wl_cmp rfl rfl rfl rfl rfl (fun h => ?_) (fun h => ?_) <;> (simp only [cmpP] at h))) | (refine is_bin (op := .rem) rfl ?_; refine wl_ev rfl (ev_rem rfl rfl rfl) ?_)   ) <;> (simp only [nrm, ↓reduceIte, Nat.reduceAdd])) | (refine is_conv rfl ?_; first | fail | (refine wl_ev rfl (by first | exact c_cv rfl rfl | exact c_cv64 rfl rfl | exact c_cv32 rfl rfl | exact c_cv8 rfl rfl) ?_; (simp only [nrm, ↓reduceIte, Nat.reduceAdd]))) | ((first | (refine is_buildSlice rfl ?_; first | (refine wl_rw rfl (fun K hK => c_s1t H rfl rfl rfl (h := (fun g w1 hg hf H1 => hK _ _ ?_)))) | (refine wl_rw rfl (fun K hK => c_s1c H rfl rfl (h := (fun g w1 hg hf H1 => hK _ _ ?_)))))   ); (clear hK K); (clear H; have H := H1; clear H1; (try dsimp only at H); (try clear hf)); (simp only [nrm, ↓reduceIte, Nat.reduceAdd])))
        refine Calls.mono (word_any raw i (by omega) (Hr.out.fr H.fr) Hb.out) ?_
        rintro e w1 ⟨x, rfl, hF, hx0, hx64⟩
        have H1 := H.step hF (by simp)
        clear H hF
        have H := H1
        clear H1
        go_upto_region 8 with (first | ((first | (refine is_cmp rfl rfl ?_; first | (refine wl_ev rfl (by first | exact ev_cmpT rfl rfl rfl rfl | exact ev_cmpF rfl rfl rfl rfl) ?_) | (refine wl_cmp rfl rfl rfl rfl rfl (fun h => ?_) (fun h => ?_) <;> (simp only [cmpP] at h))) | (refine is_bin (op := .rem) rfl ?_; refine wl_ev rfl (ev_rem rfl rfl rfl) ?_)   ) <;> (simp only [nrm, ↓reduceIte, Nat.reduceAdd])) | (refine is_conv rfl ?_; first | fail | (refine wl_ev rfl (by first | exact c_cv rfl rfl | exact c_cv64 rfl rfl | exact c_cv32 rfl rfl | exact c_cv8 rfl rfl) ?_; (simp only [nrm, ↓reduceIte, Nat.reduceAdd]))) | ((first | (refine is_buildSlice rfl ?_; first | (refine wl_rw rfl (fun K hK => c_s1t H rfl rfl rfl (h := (fun g w1 hg hf H1 => hK _ _ ?_)))) | (refine wl_rw rfl (fun K hK => c_s1c H rfl rfl (h := (fun g w1 hg hf H1 => hK _ _ ?_)))))   ); (clear hK K); (clear H; have H := H1; clear H1; (try dsimp only at H); (try clear hf)); (simp only [nrm, ↓reduceIte, Nat.reduceAdd])))
        go_cut [37] (fun s37 wx => ∃ bb : Bool, s37 = .bool bb ∧ (bb = true → i + 1 < n) ∧ Hp [] w wx [.blk g1 (ints P ++ pad1) 3, .blk g2 (ints O ++ pad2) 3])
        case first =>
          go_wp2_with (first | ((first | (refine is_cmp rfl rfl ?_; first | (refine wl_ev rfl (by first | exact ev_cmpT rfl rfl rfl rfl | exact ev_cmpF rfl rfl rfl rfl) ?_) | (refine wl_cmp rfl rfl rfl rfl rfl (fun h => ?_) (fun h => ?_) <;> (simp only [cmpP] at h))) | (refine is_bin (op := .rem) rfl ?_; refine wl_ev rfl (ev_rem rfl rfl rfl) ?_)   ) <;> (simp only [nrm, ↓reduceIte, Nat.reduceAdd])) | (refine is_conv rfl ?_; first | fail | (refine wl_ev rfl (by first | exact c_cv rfl rfl | exact c_cv64 rfl rfl | exact c_cv32 rfl rfl | exact c_cv8 rfl rfl) ?_; (simp only [nrm, ↓reduceIte, Nat.reduceAdd]))) | ((first | (refine is_buildSlice rfl ?_; first | (refine wl_rw rfl (fun K hK => c_s1t H rfl rfl rfl (h := (fun g w1 hg hf H1 => hK _ _ ?_)))) | (refine wl_rw rfl (fun K hK => c_s1c H rfl rfl (h := (fun g w1 hg hf H1 => hK _ _ ?_)))))   ); (clear hK K); (clear H; have H := H1; clear H1; (try dsimp only at H); (try clear hf)); (simp only [nrm, ↓reduceIte, Nat.reduceAdd])))
          all_goals
            go_meet
            case rel =>
              refine ⟨_, rfl, ?_, H⟩
              intro hb
              first | omega | cases hb
        case rest =>
          clear H
          obtain ⟨bb, rfl, hbb, H⟩ := hcut
          have Hbb := hid hbb
          clear hbb
          go_upto_if 37 with fail
          go_cut [13] (fun s13 wx => ∃ pv : Int, s13 = .int .i64 pv ∧ Hid (pv = -1 ∨ ((i : Int) < pv ∧ pv < n)) ∧ Hp [] w wx [.blk g1 (ints P ++ pad1) 3, .blk g2 (ints O ++ pad2) 3])
          case first =>
            cases bb
            · go_wp2_with (first | ((first | (refine is_cmp rfl rfl ?_; first | (refine wl_ev rfl (by first | exact ev_cmpT rfl rfl rfl rfl | exact ev_cmpF rfl rfl rfl rfl) ?_) | (refine wl_cmp rfl rfl rfl rfl rfl (fun h => ?_) (fun h => ?_) <;> (simp only [cmpP] at h))) | (refine is_bin (op := .rem) rfl ?_; refine wl_ev rfl (ev_rem rfl rfl rfl) ?_)   ) <;> (simp only [nrm, ↓reduceIte, Nat.reduceAdd])) | (refine is_conv rfl ?_; first | fail | (refine wl_ev rfl (by first | exact c_cv rfl rfl | exact c_cv64 rfl rfl | exact c_cv32 rfl rfl | exact c_cv8 rfl rfl) ?_; (simp only [nrm, ↓reduceIte, Nat.reduceAdd]))) | ((first | (refine is_buildSlice rfl ?_; first | (refine wl_rw rfl (fun K hK => c_s1t H rfl rfl rfl (h := (fun g w1 hg hf H1 => hK _ _ ?_)))) | (refine wl_rw rfl (fun K hK => c_s1c H rfl rfl (h := (fun g w1 hg hf H1 => hK _ _ ?_)))))   ); (clear hK K); (clear H; have H := H1; clear H1; (try dsimp only at H); (try clear hf)); (simp only [nrm, ↓reduceIte, Nat.reduceAdd])))
              go_meet
              case rel => exact ⟨_, rfl, hid (.inl rfl), H⟩
            · have hi1 := Hbb.out rfl
              have hd : 0 < (if 4 < (n : Int) - i - 1 then 4 else (n : Int) - i - 1) := by split <;> omega
              have e1 := Int.emod_nonneg (x / 65536) (show (if 4 < (n : Int) - i - 1 then 4 else (n : Int) - i - 1) ≠ 0 by omega)
              have e2 := Int.emod_lt_of_pos (x / 65536) hd
              have e3 : x / 65536 % (if 4 < (n : Int) - i - 1 then 4 else (n : Int) - i - 1) < 4 := Int.lt_of_lt_of_le e2 (by split <;> omega)
              have e4 : x / 65536 % (if 4 < (n : Int) - i - 1 then 4 else (n : Int) - i - 1) < (n : Int) - i - 1 := Int.lt_of_lt_of_le e2 (by split <;> omega)
              have e5 := Int.emod_nonneg (x / 65536) (show (n : Int) - i - 1 ≠ 0 by omega)
              have e6 := Int.emod_lt_of_pos (x / 65536) (show (0 : Int) < (n : Int) - i - 1 by omega)
              clear e2
              go_wp2_with (first | ((first | (refine is_cmp rfl rfl ?_; first | (refine wl_ev rfl (by first | exact ev_cmpT rfl rfl rfl rfl | exact ev_cmpF rfl rfl rfl rfl) ?_) | (refine wl_cmp rfl rfl rfl rfl rfl (fun h => ?_) (fun h => ?_) <;> (simp only [cmpP] at h))) | (refine is_bin (op := .rem) rfl ?_; refine wl_ev rfl (ev_rem rfl rfl rfl) ?_)   ) <;> (simp only [nrm, ↓reduceIte, Nat.reduceAdd])) | (refine is_conv rfl ?_; first | fail | (refine wl_ev rfl (by first | exact c_cv rfl rfl | exact c_cv64 rfl rfl | exact c_cv32 rfl rfl | exact c_cv8 rfl rfl) ?_; (simp only [nrm, ↓reduceIte, Nat.reduceAdd]))) | ((first | (refine is_buildSlice rfl ?_; first | (refine wl_rw rfl (fun K hK => c_s1t H rfl rfl rfl (h := (fun g w1 hg hf H1 => hK _ _ ?_)))) | (refine wl_rw rfl (fun K hK => c_s1c H rfl rfl (h := (fun g w1 hg hf H1 => hK _ _ ?_)))))   ); (clear hK K); (clear H; have H := H1; clear H1; (try dsimp only at H); (try clear hf)); (simp only [nrm, ↓reduceIte, Nat.reduceAdd])))
              all_goals
                go_meet
                case rel => exact ⟨_, rfl, hid (.inr (by omega)), H⟩
          case rest =>
            clear H
            obtain ⟨pv, rfl, Hpv, H⟩ := hcut
            have e1 := Int.emod_nonneg (x / 4294967296) (show (k : Int) ≠ 0 by omega)
            have e2 := Int.emod_lt_of_pos (x / 4294967296) (show (0 : Int) < (k : Int) by omega)
            have HP1 : Hid ((ints P).length = i * 1) := hid (by rw [ints_len, HPO.out.1, Nat.mul_one])
            have HO1 : Hid ((ints O).length = i * 1) := hid (by rw [ints_len, HPO.out.2.1, Nat.mul_one])
            go_wp2_with (first | ((first | (refine is_cmp rfl rfl ?_; first | (refine wl_ev rfl (by first | exact ev_cmpT rfl rfl rfl rfl | exact ev_cmpF rfl rfl rfl rfl) ?_) | (refine wl_cmp rfl rfl rfl rfl rfl (fun h => ?_) (fun h => ?_) <;> (simp only [cmpP] at h))) | (refine is_bin (op := .rem) rfl ?_; refine wl_ev rfl (ev_rem rfl rfl rfl) ?_)   ) <;> (simp only [nrm, ↓reduceIte, Nat.reduceAdd])) | (refine is_conv rfl ?_; first | fail | (refine wl_ev rfl (by first | exact c_cv rfl rfl | exact c_cv64 rfl rfl | exact c_cv32 rfl rfl | exact c_cv8 rfl rfl) ?_; (simp only [nrm, ↓reduceIte, Nat.reduceAdd]))) | ((first | (refine is_buildSlice rfl ?_; first | (refine wl_rw rfl (fun K hK => c_s1t H rfl rfl rfl (h := (fun g w1 hg hf H1 => hK _ _ ?_)))) | (refine wl_rw rfl (fun K hK => c_s1c H rfl rfl (h := (fun g w1 hg hf H1 => hK _ _ ?_)))))   ); (clear hK K); (clear H; have H := H1; clear H1; (try dsimp only at H); (try clear hf)); (simp only [nrm, ↓reduceIte, Nat.reduceAdd])))
            (refine wp_plan H (List.nil_sublist _) 15 (.st 0 (.st 1 (.st 4 (.st 5 (.st 6 (.st 7 (.st 8 (.st 9 (.st 10 (.ld2 2 (.ld2 3 (.ld 11 (.ld 12 (.st 13 (.st 14 .done)))) 11 (.ld 3 (.ld 12 (.st 13 (.st 14 .done))))) 11 (.ld 2 (.ld 3 (.ld 12 (.st 13 (.st 14 .done))))))))))))))) rfl (by kernel_rfl) (by kernel_rfl) (by intro c a d v w h; cases d <;> exact h) (fun w1 H1 => ?_); (clear H; have H := H1; clear H1))
            (refine pl_ev rfl rfl (fun w H => ev_moveT rfl rfl) ?_; (simp only [nrm, ↓reduceIte, Nat.reduceAdd]))
            (refine pl_ev rfl rfl (fun w H => ev_moveT rfl rfl) ?_; (simp only [nrm, ↓reduceIte, Nat.reduceAdd]))
            (refine pl_ev rfl rfl (fun w H => ev_moveT rfl rfl) ?_; (simp only [nrm, ↓reduceIte, Nat.reduceAdd]))
            (refine pl_ev rfl rfl (fun w H => ev_moveT rfl rfl) ?_; (simp only [nrm, ↓reduceIte, Nat.reduceAdd]))
            (refine pl_ev rfl rfl (fun w H => ev_shr32 rfl rfl) ?_; (simp only [nrm, ↓reduceIte, Nat.reduceAdd]))
            (refine pl_ev rfl rfl (fun w H => ev_moveT rfl rfl) ?_; (simp only [nrm, ↓reduceIte, Nat.reduceAdd]))
            (refine pl_ev rfl rfl (fun w H => by first | exact c_cv rfl rfl | exact c_cv64 rfl rfl | exact c_cv32 rfl rfl | exact c_cv8 rfl rfl) ?_; (simp only [nrm, ↓reduceIte, Nat.reduceAdd]))
            (refine pl_ev rfl rfl (fun w H => ev_rem rfl rfl rfl) ?_; (simp only [nrm, ↓reduceIte, Nat.reduceAdd]))
            (refine pl_ev rfl rfl (fun w H => by first | exact c_cv rfl rfl | exact c_cv64 rfl rfl | exact c_cv32 rfl rfl | exact c_cv8 rfl rfl) ?_; (simp only [nrm, ↓reduceIte, Nat.reduceAdd]))
            (refine pl_ld2 ?_ ?_)
            (refine pl_rw rfl rfl (fun K hK => c_s1t H rfl rfl rfl (h := fun b1 w1 hb1 hf H1 => hK _ _ (fun hne => by first | exact absurd rfl hne | exact trivial | exact H1.sub (by repeat first | exact List.Sublist.refl _ | exact List.nil_sublist _ | apply List.Sublist.cons_cons | apply List.Sublist.cons)) ?_)); (clear hK K); (clear H; have H := H1; clear H1; (try dsimp only at H); (try clear hf)); (simp only [nrm, ↓reduceIte, Nat.reduceAdd]))
            (refine pl_ld2 ?_ ?_)
            (go_loud (refine pl_rw rfl rfl (fun K hK => c_apo H rfl rfl rfl (List.prefix_append _ _) HP1.out Hl1.out hc1 (H.rd (b := b1) (off := 0) (vs := [.int .i64 pv]) List.prefix_rfl) rfl (by intro u hu; simp only [List.mem_singleton] at hu; subst hu; rfl) (by decide) (by omega) (by unfold maxLen; omega) (fun q1 w1 d1 pq1 hq1 hd1 hdm1 hpl1 hf H1 => hK _ _ (fun hne => by first | exact absurd rfl hne | exact trivial | exact H1.sub (by repeat first | exact List.Sublist.refl _ | exact List.nil_sublist _ | apply List.Sublist.cons_cons | apply List.Sublist.cons)) ?_))); (clear hK K); (clear H; have H := H1; clear H1; (try dsimp only at H); (try clear hf)); (simp only [nrm, ↓reduceIte, Nat.reduceAdd]))
            (refine pl_rw rfl rfl (fun K hK => c_s1t H rfl rfl rfl (h := fun b2 w1 hb2 hf H1 => hK _ _ (fun hne => by first | exact absurd rfl hne | exact trivial | exact H1.sub (by repeat first | exact List.Sublist.refl _ | exact List.nil_sublist _ | apply List.Sublist.cons_cons | apply List.Sublist.cons)) ?_)); (clear hK K); (clear H; have H := H1; clear H1; (try dsimp only at H); (try clear hf)); (simp only [nrm, ↓reduceIte, Nat.reduceAdd]))
            (go_loud (refine pl_rw rfl rfl (fun K hK => c_apo H rfl rfl rfl (List.prefix_append _ _) HO1.out Hl2.out hc2 (H.rd (b := b2) (off := 0) (vs := [.int .i64 (x / 4294967296 % k)]) List.prefix_rfl) rfl (by intro u hu; simp only [List.mem_singleton] at hu; subst hu; rfl) (by decide) (by omega) (by unfold maxLen; omega) (fun q2 w1 d2 pq2 hq2 hd2 hdm2 hpl2 hf H1 => hK _ _ (fun hne => by first | exact absurd rfl hne | exact trivial | exact H1.sub (by repeat first | exact List.Sublist.refl _ | exact List.nil_sublist _ | apply List.Sublist.cons_cons | apply List.Sublist.cons)) ?_))); (clear hK K); (clear H; have H := H1; clear H1; (try dsimp only at H); (try clear hf)); (simp only [nrm, ↓reduceIte, Nat.reduceAdd]))
            (refine pl_ev rfl rfl (fun w H => ev_assignT rfl rfl) ?_; (simp only [nrm, ↓reduceIte, Nat.reduceAdd]))
            (refine pl_ev rfl rfl (fun w H => ev_assignT rfl rfl) ?_; (simp only [nrm, ↓reduceIte, Nat.reduceAdd]))
            (refine pl_done ?_)
            rotate_left
            (refine pl_rw rfl rfl (fun K hK => c_s1t H rfl rfl rfl (h := fun b2 w1 hb2 hf H1 => hK _ _ (fun hne => by first | exact absurd rfl hne | exact trivial | exact H1.sub (by repeat first | exact List.Sublist.refl _ | exact List.nil_sublist _ | apply List.Sublist.cons_cons | apply List.Sublist.cons)) ?_)); (clear hK K); (clear H; have H := H1; clear H1; (try dsimp only at H); (try clear hf)); (simp only [nrm, ↓reduceIte, Nat.reduceAdd]))
            (go_loud (refine pl_rw rfl rfl (fun K hK => c_apo H rfl rfl rfl (List.prefix_append _ _) HP1.out Hl1.out hc1 (H.rd (b := b1) (off := 0) (vs := [.int .i64 pv]) List.prefix_rfl) rfl (by intro u hu; simp only [List.mem_singleton] at hu; subst hu; rfl) (by decide) (by omega) (by unfold maxLen; omega) (fun q1 w1 d1 pq1 hq1 hd1 hdm1 hpl1 hf H1 => hK _ _ (fun hne => by first | exact absurd rfl hne | exact trivial | exact H1.sub (by repeat first | exact List.Sublist.refl _ | exact List.nil_sublist _ | apply List.Sublist.cons_cons | apply List.Sublist.cons)) ?_))); (clear hK K); (clear H; have H := H1; clear H1; (try dsimp only at H); (try clear hf)); (simp only [nrm, ↓reduceIte, Nat.reduceAdd]))
            (go_loud (refine pl_rw rfl rfl (fun K hK => c_apo H rfl rfl rfl (List.prefix_append _ _) HO1.out Hl2.out hc2 (H.rd (b := b2) (off := 0) (vs := [.int .i64 (x / 4294967296 % k)]) List.prefix_rfl) rfl (by intro u hu; simp only [List.mem_singleton] at hu; subst hu; rfl) (by decide) (by omega) (by unfold maxLen; omega) (fun q2 w1 d2 pq2 hq2 hd2 hdm2 hpl2 hf H1 => hK _ _ (fun hne => by first | exact absurd rfl hne | exact trivial | exact H1.sub (by repeat first | exact List.Sublist.refl _ | exact List.nil_sublist _ | apply List.Sublist.cons_cons | apply List.Sublist.cons)) ?_))); (clear hK K); (clear H; have H := H1; clear H1; (try dsimp only at H); (try clear hf)); (simp only [nrm, ↓reduceIte, Nat.reduceAdd]))
            (refine pl_ev rfl rfl (fun w H => ev_assignT rfl rfl) ?_; (simp only [nrm, ↓reduceIte, Nat.reduceAdd]))
            (refine pl_ev rfl rfl (fun w H => ev_assignT rfl rfl) ?_; (simp only [nrm, ↓reduceIte, Nat.reduceAdd]))
            (refine pl_done ?_)
            rotate_left
            (refine pl_rw rfl rfl (fun K hK => c_s1t H rfl rfl rfl (h := fun b2 w1 hb2 hf H1 => hK _ _ (fun hne => by first | exact absurd rfl hne | exact trivial | exact H1.sub (by repeat first | exact List.Sublist.refl _ | exact List.nil_sublist _ | apply List.Sublist.cons_cons | apply List.Sublist.cons)) ?_)); (clear hK K); (clear H; have H := H1; clear H1; (try dsimp only at H); (try clear hf)); (simp only [nrm, ↓reduceIte, Nat.reduceAdd]))
            (refine pl_rw rfl rfl (fun K hK => c_s1t H rfl rfl rfl (h := fun b1 w1 hb1 hf H1 => hK _ _ (fun hne => by first | exact absurd rfl hne | exact trivial | exact H1.sub (by repeat first | exact List.Sublist.refl _ | exact List.nil_sublist _ | apply List.Sublist.cons_cons | apply List.Sublist.cons)) ?_)); (clear hK K); (clear H; have H := H1; clear H1; (try dsimp only at H); (try clear hf)); (simp only [nrm, ↓reduceIte, Nat.reduceAdd]))
            (go_loud (refine pl_rw rfl rfl (fun K hK => c_apo H rfl rfl rfl (List.prefix_append _ _) HP1.out Hl1.out hc1 (H.rd (b := b1) (off := 0) (vs := [.int .i64 pv]) List.prefix_rfl) rfl (by intro u hu; simp only [List.mem_singleton] at hu; subst hu; rfl) (by decide) (by omega) (by unfold maxLen; omega) (fun q1 w1 d1 pq1 hq1 hd1 hdm1 hpl1 hf H1 => hK _ _ (fun hne => by first | exact absurd rfl hne | exact trivial | exact H1.sub (by repeat first | exact List.Sublist.refl _ | exact List.nil_sublist _ | apply List.Sublist.cons_cons | apply List.Sublist.cons)) ?_))); (clear hK K); (clear H; have H := H1; clear H1; (try dsimp only at H); (try clear hf)); (simp only [nrm, ↓reduceIte, Nat.reduceAdd]))
            (go_loud (refine pl_rw rfl rfl (fun K hK => c_apo H rfl rfl rfl (List.prefix_append _ _) HO1.out Hl2.out hc2 (H.rd (b := b2) (off := 0) (vs := [.int .i64 (x / 4294967296 % k)]) List.prefix_rfl) rfl (by intro u hu; simp only [List.mem_singleton] at hu; subst hu; rfl) (by decide) (by omega) (by unfold maxLen; omega) (fun q2 w1 d2 pq2 hq2 hd2 hdm2 hpl2 hf H1 => hK _ _ (fun hne => by first | exact absurd rfl hne | exact trivial | exact H1.sub (by repeat first | exact List.Sublist.refl _ | exact List.nil_sublist _ | apply List.Sublist.cons_cons | apply List.Sublist.cons)) ?_))); (clear hK K); (clear H; have H := H1; clear H1; (try dsimp only at H); (try clear hf)); (simp only [nrm, ↓reduceIte, Nat.reduceAdd]))
            (refine pl_ev rfl rfl (fun w H => ev_assignT rfl rfl) ?_; (simp only [nrm, ↓reduceIte, Nat.reduceAdd]))
            (refine pl_ev rfl rfl (fun w H => ev_assignT rfl rfl) ?_; (simp only [nrm, ↓reduceIte, Nat.reduceAdd]))
            (refine pl_done ?_)
            rotate_left
            all_goals
              rw [← ints_snoc, ← ints_snoc] at H
              go_wp2_with (first | ((first | (refine is_cmp rfl rfl ?_; first | (refine wl_ev rfl (by first | exact ev_cmpT rfl rfl rfl rfl | exact ev_cmpF rfl rfl rfl rfl) ?_) | (refine wl_cmp rfl rfl rfl rfl rfl (fun h => ?_) (fun h => ?_) <;> (simp only [cmpP] at h))) | (refine is_bin (op := .rem) rfl ?_; refine wl_ev rfl (ev_rem rfl rfl rfl) ?_)   ) <;> (simp only [nrm, ↓reduceIte, Nat.reduceAdd])) | (refine is_conv rfl ?_; first | fail | (refine wl_ev rfl (by first | exact c_cv rfl rfl | exact c_cv64 rfl rfl | exact c_cv32 rfl rfl | exact c_cv8 rfl rfl) ?_; (simp only [nrm, ↓reduceIte, Nat.reduceAdd]))) | ((first | (refine is_buildSlice rfl ?_; first | (refine wl_rw rfl (fun K hK => c_s1t H rfl rfl rfl (h := (fun g w1 hg hf H1 => hK _ _ ?_)))) | (refine wl_rw rfl (fun K hK => c_s1c H rfl rfl (h := (fun g w1 hg hf H1 => hK _ _ ?_)))))   ); (clear hK K); (clear H; have H := H1; clear H1; (try dsimp only at H); (try clear hf)); (simp only [nrm, ↓reduceIte, Nat.reduceAdd])))
              go_roundw
              case rel =>
                refine ⟨i + 1, q1, d1, q2, d2, P ++ [pv], O ++ [x / 4294967296 % k], pq1, pq2, by omega, by go_num, rfl, rfl, hid ⟨by rw [List.length_append, HPO.out.1]; rfl, by rw [List.length_append, HPO.out.2.1]; rfl, fun t p hp => ?_, fun t o ho => ?_⟩, hid (by rw [ints_snoc]; exact hpl1), hid (by rw [ints_snoc]; exact hpl2), hdm1, hdm2, ?_⟩
                · rcases snocAt hp with ⟨rfl, rfl⟩ | h
                  · rw [HPO.out.1]; exact Hpv.out
                  · exact HPO.out.2.2.1 t p h
                · rcases snocAt ho with ⟨rfl, rfl⟩ | h
                  · exact ⟨e1, e2⟩
                  · exact HPO.out.2.2.2 t o h
                · (refine Hp.arr H ?_; repeat (first | exact Pm.nil _ | (apply Pm.cons; · (repeat first | exact Rm.here _ | apply Rm.there))))
              case measure => simp [intOf]; omega
      · have e : n = i := by omega
        obtain ⟨f1, f2, f3, f4⟩ := HPO.out
        have hck := check_zero (par := P) (own := O) (k := k) (by omega) (fun t p hp => by rw [f1, ← e]; exact f3 t p hp) hk1 (by omega) (by omega) f4
        have Hck := hid hck
        have Hf1 := hid f1
        have Hf2 := hid f2
        clear e f1 f2 f3 f4 hck
        go_wp2_with (first | ((first | (refine is_cmp rfl rfl ?_; first | (refine wl_ev rfl (by first | exact ev_cmpT rfl rfl rfl rfl | exact ev_cmpF rfl rfl rfl rfl) ?_) | (refine wl_cmp rfl rfl rfl rfl rfl (fun h => ?_) (fun h => ?_) <;> (simp only [cmpP] at h))) | (refine is_bin (op := .rem) rfl ?_; refine wl_ev rfl (ev_rem rfl rfl rfl) ?_)   ) <;> (simp only [nrm, ↓reduceIte, Nat.reduceAdd])) | (refine is_conv rfl ?_; first | fail | (refine wl_ev rfl (by first | exact c_cv rfl rfl | exact c_cv64 rfl rfl | exact c_cv32 rfl rfl | exact c_cv8 rfl rfl) ?_; (simp only [nrm, ↓reduceIte, Nat.reduceAdd]))) | ((first | (refine is_buildSlice rfl ?_; first | (refine wl_rw rfl (fun K hK => c_s1t H rfl rfl rfl (h := (fun g w1 hg hf H1 => hK _ _ ?_)))) | (refine wl_rw rfl (fun K hK => c_s1c H rfl rfl (h := (fun g w1 hg hf H1 => hK _ _ ?_)))))   ); (clear hK K); (clear H; have H := H1; clear H1; (try dsimp only at H); (try clear hf)); (simp only [nrm, ↓reduceIte, Nat.reduceAdd])))
        refine bodyPost_ret (results_tmp3 rfl _ _ _) rfl ?_
        exact ⟨P, O, k, g1, c1, g2, c2, pad1, pad2, by rw [Hf1.out]; rfl, H.fr, H, by rw [Hf1.out, Hf2.out], by rw [Hf1.out]; omega, hk1, hk2, Hck.out⟩
end Go.Proofs.Ythlhjjokodmihaa
