import Derived.Test.YtbiohhmpclnpgaaGreatDoorXMc5
import Derived.Test.YtbiohhmpclnpgaaGreatDoorXMd0
namespace Go.Proofs.YtbiohhmpclnpgaaGreatDoor
open Go.RowKit
set_option linter.unusedSimpArgs false
set_option linter.unusedVariables false
set_option maxHeartbeats 8000000
set_option maxRecDepth 100000
attribute [local irreducible] wpList Code.wp Plan.wp
theorem flatE_one (E : List En) : ∀ u ∈ E.flatMap eC, u.oneCell' = true := by
 intro u hu
 obtain ⟨x, _, h⟩ := List.mem_flatMap.1 hu
 exact eC_one x u h
theorem cloneE_any (w : World) {p : Option Addr} {c : Nat} (E : List En) (hr : Rd w (.slice p E.length c) E.length (E.flatMap eC)) (hE : E.length ≤ 100000) :
  Calls Tryz.prog 76 #[.slice p E.length c] w fun e w' => ∃ v, e = .returned v ∧ Fr [] w w' ∧ w'.ownsRow w.heap.size 131 3 v E.length (E.flatMap eC) := by
 have HR := hid hr
 have H := Hp.start [] w
 clear hr
 go_enter Tryz.func76, Tryz.ntmps76
 cases p with
 | none =>
  have hE0 : E = [] := by
   rcases HR.out with ⟨h1, _⟩ | ⟨ad, c', h1, _⟩
   ·exact List.eq_nil_of_length_eq_zero h1
   ·cases h1
  subst hE0
  go_wp2_with (refine x_q H ?_)
  (refine bodyPost_ret (results_tmp rfl _ _ _) rfl ?_)
  exact ⟨_, rfl, H.fr, World.ownsRow_nil _ _ _ _⟩
 | some p =>
  by_cases h0 : E.length < 1
  ·have h1 : E = [] := List.eq_nil_of_length_eq_zero (by omega)
   subst h1
   go_wp2_with (first | refine x_q H ?_ | (refine is_buildSlice rfl ?_; refine wl_rw rfl (fun K hK => c_sN H rfl (by repeat first | exact .nil _ | apply Parts.tmp (by rfl) (by rfl) | apply Parts.con (by rfl)) rfl (by intro c hc; simp only [List.mem_cons, List.not_mem_nil, or_false] at hc; (try (rcases hc with rfl | rfl | rfl | rfl | rfl | rfl | rfl | rfl <;> rfl))) (by decide) (by decide) (fun g w1 hg hf H1 => hK _ _ ?_)); (clear hK K); (clear H; have H := H1; clear H1; (try dsimp only at H); (first | replace hf := hf.kp | clear hf)); (simp only [nrm, ↓reduceIte, Nat.reduceAdd])) | (refine is_blt (b := .append) rfl ?_; refine wl_rw rfl (fun K hK => c_apz H rfl rfl rfl (by omega) (fun w1 hf H1 => hK _ _ ?_)); (clear hK K); (clear H; have H := H1; clear H1; (try dsimp only at H); (first | replace hf := hf.kp | clear hf)); (simp only [nrm, ↓reduceIte, Nat.reduceAdd])))
   (refine bodyPost_ret (results_tmp rfl _ _ _) rfl ?_)
   exact ⟨_, rfl, H.fr, ⟨rfl, .inr ⟨g, 0, #[], rfl, by omega, by simpa using H.at g, Nat.le_refl _, Nat.zero_le _, rfl, rfl⟩⟩⟩
  ·go_wp2_with (first | refine x_q H ?_ | (refine is_buildSlice rfl ?_; refine wl_rw rfl (fun K hK => c_sN H rfl (by repeat first | exact .nil _ | apply Parts.tmp (by rfl) (by rfl) | apply Parts.con (by rfl)) rfl (by intro c hc; simp only [List.mem_cons, List.not_mem_nil, or_false] at hc; (try (rcases hc with rfl | rfl | rfl | rfl | rfl | rfl | rfl | rfl <;> rfl))) (by decide) (by decide) (fun g w1 hg hf H1 => hK _ _ ?_)); (clear hK K); (clear H; have H := H1; clear H1; (try dsimp only at H); (first | replace hf := hf.kp | clear hf)); (simp only [nrm, ↓reduceIte, Nat.reduceAdd])) | (refine is_blt (b := .append) rfl ?_; go_loud (refine wl_rw rfl (fun K hK => c_apo H rfl rfl rfl List.prefix_rfl rfl rfl (Nat.zero_le _) (HR.out.fr H.fr (by simp)) (flatE_len E) (flatE_one E) (by omega) (by omega) (by first | omega | (unfold maxLen; omega)) (fun g w1 cap pad hg hc hcm hpl hf H1 => hK _ _ ?_))); (clear hK K); (clear H; have H := H1; clear H1; (try dsimp only at H); (first | replace hf := hf.kp | clear hf)); (simp only [nrm, ↓reduceIte, Nat.reduceAdd])))
   (refine bodyPost_ret (results_tmp rfl _ _ _) rfl ?_)
   have hat := H.at g
   have hr : RowAt 131 3 (.slice (some ⟨g, 0, none⟩) E.length cap) E.length (E.flatMap eC) [g] w1 := ⟨flatE_len E, .inr ⟨g, cap, pad, rfl, rfl, by omega, hcm, by simpa using hpl, by simpa using hat⟩⟩
   exact ⟨_, rfl, H.fr, hr.owns (fun x hx => by simp only [List.mem_singleton] at hx; subst hx; omega)⟩
theorem insort_nil {w : World} {p : Option Addr} {cap : Nat} :
  Calls Tryz.prog 208 #[.slice p 0 cap, .int .i64 (0 : Int), .int .i64 (0 : Int), .func (.func 191) #[] #[]] w fun e w' => e = .returned (.tuple #[]) ∧ Fr [] w w' := by
 have H := Hp.start [] w
 go_enter Tryz.func208, Tryz.ntmps208
 go_wp2_with fail
 go_loopw [8] (fun s8 wr => s8 = .int .i64 1 ∧ Hp [] w wr []) (fun _ _ => 0)
 case atStart => exact ⟨rfl, H⟩
 case round =>
  clear H
  obtain ⟨rfl, H⟩ := hrel
  go_wp2_with (refine x_q H ?_)
  go_end0
  exact ⟨rfl, H.fr⟩
def EntsB (q : Nat) (E : List En) (pad : List Value) (w : World) : Prop := w.heap[q]? = some (.cells (E.flatMap eC ++ pad).toArray 131 (0, 0))
theorem EntsB.firm {q : Nat} {E : List En} {pad : List Value} : Firm [q] (EntsB q E pad) :=
 ⟨fun w w' R k hn h => k.get h (hn q (by simp)), fun w h x hx => by simp only [List.mem_singleton] at hx; subst hx; exact lt_of_get h, fun w h => by simp⟩
instance {q : Nat} {E : List En} {pad : List Value} : Fm [q] (EntsB q E pad) := ⟨EntsB.firm⟩
theorem stable20 {w : World} {q cap N : Nat} (E : List En) (pad : List Value) (hq : w.heap[q]? = some (.cells (E.flatMap eC ++ pad).toArray 131 (0, 0))) (hN : E.length = N) (hN2 : N ≤ 20) :
  Calls Tryz.prog 203 #[.slice (some ⟨q, 0, none⟩) N cap, .int .i64 (N : Int), .func (.func 191) #[] #[]] w fun e w' => e = .returned (.tuple #[]) ∧ Fr [q] w w' ∧
   ∃ E' : List En, E'.length = N ∧ w'.heap[q]? = some (.cells (E'.flatMap eC ++ pad).toArray 131 (0, 0)) ∧ E.Perm E' ∧ E'.Pairwise leE := by
 have H := (Hp.start [q] w).pushObj 5 (Q := EntsB q E pad) (S := [q]) hq EntsB.firm (by simp) (by simp)
 clear hq
 have HNN := hid hN
 clear hN
 go_enter Tryz.func203, Tryz.ntmps203
 go_wp2_with fail
 go_loopw [7, 8] (fun s7 s8 wr => ∃ (a : Nat) (E1 : List En), s7 = .int .i64 (a : Int) ∧ s8 = .int .i64 ((a : Int) + 20) ∧ (a = 0 ∨ (20 ≤ a ∧ a ≤ 20 ∧ 20 ≤ N)) ∧ Hid (E1.length = N) ∧ Hid (E.Perm E1) ∧ Hid ((E1.take a).Pairwise leE) ∧ Hp [q] w wr [.obj 5 [q] (EntsB q E1 pad)]) (fun v _ _ => 40 - (intOf v).toNat)
 case atStart => exact ⟨0, E, rfl, rfl, .inl rfl, HNN, hid (List.Perm.refl _), hid .nil, H⟩
 case round =>
  clear H
  obtain ⟨a, E1, rfl, rfl, ha, hE1, HP, HS, H⟩ := hrel
  by_cases hlt : a + 20 ≤ N
  ·obtain rfl : a = 0 := by omega
   go_wp2_with (refine x_q H ?_)
   (refine Calls.mono (insort_any (a := 0) (b := 20) E1 pad (H.ob 5) hE1.out (by omega) (by omega) (by omega)) ?_; rintro e w1 ⟨rfl, hF, E2, h1, h2, h3, h4, h5, h6⟩; have H1 := H.upd (w' := w1) 5 hF (S' := [q]) (show EntsB q E2 pad w1 from h2) (by simp); clear H hF h2; have H := H1; clear H1)
   go_wp2_with fail
   go_roundw
   case rel => exact ⟨20, E2, rfl, rfl, .inr ⟨by omega, by omega, by omega⟩, hid h1, hid (HP.out.trans h3), hid (by simpa using h6), H⟩
   case measure => (simp [intOf]; try omega)
  ·have haN : a ≤ N := by omega
   go_wp2_with (refine x_q H ?_)
   (refine Calls.mono (insort_any (a := a) (b := N) E1 pad (H.ob 5) hE1.out (by omega) (by omega) (by omega)) ?_; rintro e w1 ⟨rfl, hF, E2, h1, h2, h3, h4, h5, h6⟩; have H1 := H.upd (w' := w1) 5 hF (S' := [q]) (show EntsB q E2 pad w1 from h2) (by simp); clear H hF h2; have H := H1; clear H1)
   have hfin : E2.Pairwise leE := by
    have e2 : E2.take N = E2 := List.take_of_length_le (by omega)
    rcases ha with rfl | ⟨_, _, _⟩
    ·rw [e2] at h6; simpa using h6
    ·have e3 : E2.take a = E2 := List.take_of_length_le (by omega)
     rw [← e3, h4]; exact HS.out
   have HF := hid hfin
   have HP2 := hid (HP.out.trans h3)
   have HL := hid h1
   clear HP HS h1 h3 h4 h5 h6 hfin hE1 E1
   go_wp2_with fail
   go_loopw [6] (fun s6 wr => s6 = .int .i64 20 ∧ Hp [q] w wr [.obj 5 [q] (EntsB q E2 pad)]) (fun _ _ => 0)
   case atStart => exact ⟨rfl, H⟩
   case round =>
    clear H
    obtain ⟨rfl, H⟩ := hrel
    go_wp2_with (refine x_q H ?_)
    go_end0
    exact ⟨rfl, H.fr, E2, HL.out, H.ob 5, HP2.out, HF.out⟩
theorem stable_nil {w : World} {p : Option Addr} {cap : Nat} :
  Calls Tryz.prog 203 #[.slice p 0 cap, .int .i64 (0 : Int), .func (.func 191) #[] #[]] w fun e w' => e = .returned (.tuple #[]) ∧ Fr [] w w' := by
 have H := Hp.start [] w
 go_enter Tryz.func203, Tryz.ntmps203
 go_wp2_with fail
 go_loopw [7, 8] (fun s7 s8 wr => s7 = .int .i64 0 ∧ s8 = .int .i64 20 ∧ Hp [] w wr []) (fun _ _ _ => 0)
 case atStart => exact ⟨rfl, rfl, H⟩
 case round =>
  clear H
  obtain ⟨rfl, rfl, H⟩ := hrel
  go_wp2_with (refine x_q H ?_)
  refine x_c H insort_nil ?_; clear H; rintro e w1 ⟨rfl, hF⟩ H; clear hF
  go_wp2_with fail
  go_loopw [6] (fun s6 wr => s6 = .int .i64 20 ∧ Hp [] w wr []) (fun _ _ => 0)
  case atStart => exact ⟨rfl, H⟩
  case round =>
   clear H
   obtain ⟨rfl, H⟩ := hrel
   go_wp2_with (refine x_q H ?_)
   go_end0
   exact ⟨rfl, H.fr⟩
theorem sortS_nil {w : World} {p : Option Addr} {cap : Nat} :
  Calls Tryz.prog 190 #[.slice p 0 cap, .func (.func 191) #[] #[]] w fun e w' => e = .returned (.tuple #[]) ∧ Fr [] w w' := by
 have H := Hp.start [] w
 go_enter Tryz.func190, Tryz.ntmps190
 go_wp2_with fail
 refine x_c H stable_nil ?_; clear H; rintro e w1 ⟨rfl, hF⟩ H; clear hF
 go_wp2_with fail
 go_end0
 exact ⟨rfl, H.fr⟩
theorem sortS20 {w : World} {q cap N : Nat} (E : List En) (pad : List Value) (hq : w.heap[q]? = some (.cells (E.flatMap eC ++ pad).toArray 131 (0, 0))) (hN : E.length = N) (hN2 : N ≤ 20) :
  Calls Tryz.prog 190 #[.slice (some ⟨q, 0, none⟩) N cap, .func (.func 191) #[] #[]] w fun e w' => e = .returned (.tuple #[]) ∧ Fr [q] w w' ∧
   ∃ E' : List En, E'.length = N ∧ w'.heap[q]? = some (.cells (E'.flatMap eC ++ pad).toArray 131 (0, 0)) ∧ E.Perm E' ∧ E'.Pairwise leE := by
 have H := (Hp.start [q] w).pushObj 5 (Q := EntsB q E pad) (S := [q]) hq EntsB.firm (by simp) (by simp)
 clear hq
 go_enter Tryz.func190, Tryz.ntmps190
 go_wp2_with fail
 refine Calls.mono (stable20 E pad (H.ob 5) hN hN2) ?_
 rintro e w1 ⟨rfl, hF, E2, h1, h2, h3, h4⟩
 have H1 := H.upd (w' := w1) 5 hF (S' := [q]) (show EntsB q E2 pad w1 from h2) (by simp)
 clear H hF h2
 have H := H1
 clear H1
 have HR := hid (And.intro h1 (And.intro h3 h4))
 clear h1 h3 h4
 go_wp2_with fail
 go_end0
 exact ⟨rfl, H.fr, E2, HR.out.1, H.ob 5, HR.out.2.1, HR.out.2.2⟩
theorem sorted20 (w : World) {p : Option Addr} {c : Nat} (E : List En) (hr : Rd w (.slice p E.length c) E.length (E.flatMap eC)) (hE : E.length ≤ 20) :
  Calls Tryz.prog 161 #[.slice p E.length c] w fun e w' => ∃ v, e = .returned v ∧ Fr [] w w' ∧ ∃ E' : List En, E'.length = E.length ∧ w'.ownsRow w.heap.size 131 3 v E.length (E'.flatMap eC) ∧ E.Perm E' ∧ E'.Pairwise leE := by
 have H := Hp.start [] w
 go_enter Tryz.func161, Tryz.ntmps161
 go_wp2_with fail
 refine Calls.mono (cloneE_any _ E hr (by omega)) ?_
 rintro e w1 ⟨v, rfl, hF, hown⟩
 obtain ⟨S, H1⟩ := H.rowNew 0 hF hown
 clear H hF hown hr
 have H := H1
 clear H1
 obtain ⟨h0, ⟨rfl, h2, rfl⟩ | ⟨g, cap, pad, rfl, rfl, h2, h3, h4, h5⟩⟩ := H.rowo 0
 ·have hE0 : E = [] := List.eq_nil_of_length_eq_zero h2
  subst hE0
  clear h0 h2 hE
  go_wp2_with fail
  refine x_c H sortS_nil ?_; clear H; rintro e w1 ⟨rfl, hF⟩ H; clear hF
  go_wp2_with fail
  (refine bodyPost_ret (results_tmp rfl _ _ _) rfl ?_)
  exact ⟨_, rfl, H.fr, [], rfl, World.ownsRow_nil _ _ _ _, List.Perm.refl _, .nil⟩
 ·have H1 : Hp [] w w1 [.obj 5 [g] (EntsB g E pad)] := H.recast (.head _) rfl ⟨h5, EntsB.firm, H.home 0⟩
  have HX := hid (And.intro h2 (And.intro h3 h4))
  have HG := hid (H.home 0 g (by simp))
  clear H h0 h2 h3 h4 h5
  have H := H1
  clear H1
  obtain ⟨N, hN⟩ : ∃ N, E.length = N := ⟨_, rfl⟩
  have HN := hid hN
  rw [hN] at hE ⊢
  rw [hN] at HX
  clear hN
  go_wp2_with fail
  refine Calls.mono (sortS20 E pad (H.ob 5) HN.out hE) ?_
  rintro e w2 ⟨rfl, hF, E2, h1, h2, h3, h4⟩
  have H1 := H.upd (w' := w2) 5 hF (S' := [g]) (show EntsB g E2 pad w2 from h2) (by simp)
  clear H hF h2
  have H := H1
  clear H1
  have HR := hid (And.intro h1 (And.intro h3 h4))
  clear h1 h3 h4
  go_wp2_with fail
  (refine bodyPost_ret (results_tmp rfl _ _ _) rfl ?_)
  have hat := H.ob 5
  have hl := HR.out.1
  have hr : RowAt 131 3 (.slice (some ⟨g, 0, none⟩) N cap) N (E2.flatMap eC) [g] _ := ⟨by rw [flatE_len, hl], .inr ⟨g, cap, pad, rfl, rfl, HX.out.1, HX.out.2.1, (by have := HX.out.2.2; rw [List.length_append, flatE_len] at this ⊢; rw [hl]; rw [HN.out] at this; exact this), hat⟩⟩
  have hNe := HN.out
  clear HN
  subst hNe
  exact ⟨_, rfl, H.fr, E2, hl, hr.owns (fun x hx => by simp only [List.mem_singleton] at hx; subst hx; exact HG.out.resolve_left (by simp)), HR.out.2.1, HR.out.2.2⟩
end Go.Proofs.YtbiohhmpclnpgaaGreatDoor
namespace Go.Proofs.YtbiohhmpclnpgaaGreatDoor
open Go.RowKit
set_option linter.unusedSimpArgs false
set_option linter.unusedVariables false
set_option maxHeartbeats 8000000
set_option maxRecDepth 100000
attribute [local irreducible] wpList Code.wp Plan.wp
def iV (n : Nat) : Value := .int .i64 (n : Int)
theorem isnanS_any (w : World) (x : Int) : Calls Tryz.prog 166 #[.int .i64 x] w fun e w' => e = .returned (.bool false) ∧ Fr [] w w' := by
 have H := Hp.start [] w
 go_enter Tryz.func166, Tryz.ntmps166
 go_wp2_with (refine x_q H ?_)
 go_ret
 exact ⟨rfl, H.fr⟩
theorem less_any (w : World) (x y : Int) {b : Bool} (hb : Hid (decide (x < y) = b)) : Calls Tryz.prog 116 #[.int .i64 x, .int .i64 y] w fun e w' => e = .returned (.bool b) ∧ Fr [] w w' := by
 have H := Hp.start [] w
 by_cases h1 : x < y
 ·have HB : Hid (b = true) := hid (by rw [← hb.out]; simp [h1])
  go_enter Tryz.func116, Tryz.ntmps116
  go_wp2_with fail
  (refine x_c H (isnan_any _ x) ?_; clear H; rintro e w1 ⟨rfl, hF⟩ H; clear hF)
  go_wp2_with (refine x_q H ?_)
  go_ret
  exact ⟨by rw [HB.out]; rfl, H.fr⟩
 ·have HB : Hid (b = false) := hid (by rw [← hb.out]; simp [h1])
  go_enter Tryz.func116, Tryz.ntmps116
  go_wp2_with fail
  (refine x_c H (isnan_any _ x) ?_; clear H; rintro e w1 ⟨rfl, hF⟩ H; clear hF)
  go_wp2_with (refine x_q H ?_)
  go_ret
  exact ⟨by rw [HB.out]; rfl, H.fr⟩
section
variable {P : Program} {a : Act} {w : World} {o : Oper}
theorem ev_half {t t' : TypeId} {x : Operand} {kk : IntKind} (ho : o.op = .binOp .shr t x (.const (.int kk 1)) t') {m z : Int} (hx : a.eval x = .int .u64 m) (hz : Hid (m / 2 = z)) : (execOp a.eval o).run P w = .ok (.value (.int .u64 z)) w := by
 have e1 : (eqGuard .shr t x (.const (.int kk 1)) (.int .u64 m) (.int kk 1)).run P w = .ok () w := by unfold eqGuard; simp
 have hn : a.eval (.const (.int kk 1)) = .int kk 1 := rfl
 rw [← hz.out]
 unfold execOp
 simp only [ho, hx, hn, Sem.run_bind, e1, Result.andThen_ok, binOp]
 rw [shift_shr_any _ _ _ _ (by decide)]
 rfl
end
theorem lb_up {xs : List Nat} {t i h j x : Nat} (hs : xs.Pairwise (· < ·)) (hx : xs[h]? = some x) (hlt : x < t) (k y : Nat) (hk : k < h + 1) (hy : xs[k]? = some y) : y < t := by
 rcases Nat.lt_or_ge k h with g | g
 ·have e1 := List.getElem?_eq_some_iff.1 hx
  have e2 := List.getElem?_eq_some_iff.1 hy
  have := List.pairwise_iff_getElem.1 hs k h e2.1 e1.1 g
  rw [e1.2, e2.2] at this
  omega
 ·obtain rfl : k = h := by omega
  rw [hx] at hy
  cases hy
  exact hlt
theorem lb_dn {xs : List Nat} {t i h j x : Nat} (hs : xs.Pairwise (· < ·)) (hx : xs[h]? = some x) (hlt : t ≤ x) (k y : Nat) (hk : h ≤ k) (hy : xs[k]? = some y) : t ≤ y := by
 rcases Nat.eq_or_lt_of_le hk with g | g
 ·subst g
  rw [hx] at hy
  cases hy
  exact hlt
 ·have e1 := List.getElem?_eq_some_iff.1 hx
  have e2 := List.getElem?_eq_some_iff.1 hy
  have := List.pairwise_iff_getElem.1 hs h k e1.1 e2.1 g
  rw [e1.2, e2.2] at this
  omega
theorem bsearch_any (w : World) {p : Option Addr} {n c t : Nat} (xs : List Nat) (hn : xs.length = n) (hn2 : n ≤ 100000) (hs : xs.Pairwise (· < ·)) (hc : ∀ j u, xs[j]? = some u → ∃ g o, p = some ⟨g, o, none⟩ ∧ w.cell? ⟨g, o + j, none⟩ = some (iV u)) :
  Calls Tryz.prog 120 #[.slice p n c, .int .i64 (t : Int)] w fun e w' => ∃ i, e = .returned (.tuple #[.int .i64 ((i : Nat) : Int), .bool (xs[i]? == some t)]) ∧ Fr [] w w' ∧ Lb xs t i := by
 subst hn
 have HC := hid hc
 have HS := hid hs
 clear hc hs
 have H := Hp.start [] w
 go_enter Tryz.func120, Tryz.ntmps120
 go_wp2_with fail
 go_loopw [7, 8] (fun s7 s8 wr => ∃ i j : Nat, s7 = .int .i64 (i : Int) ∧ s8 = .int .i64 (j : Int) ∧ i ≤ j ∧ j ≤ xs.length ∧ Hid (∀ k y, k < i → xs[k]? = some y → y < t) ∧ Hid (∀ k y, j ≤ k → xs[k]? = some y → t ≤ y) ∧ Hp [] w wr []) (fun v u _ => (intOf u).toNat - (intOf v).toNat)
 case atStart => exact ⟨0, xs.length, rfl, rfl, Nat.zero_le _, Nat.le_refl _, hid (fun k y h => absurd h (by omega)), hid (fun k y h hy => absurd (List.getElem?_eq_some_iff.1 hy).1 (by omega)), H⟩
 case round =>
  clear H
  obtain ⟨i, j, rfl, rfl, hij, hj, HLo, HHi, H⟩ := hrel
  by_cases hlt : i < j
  ·obtain ⟨h, hh0⟩ : ∃ h, (i + j) / 2 = h := ⟨_, rfl⟩
   have hh1 : i ≤ h := by omega
   have hh2 : h < j := by omega
   have HH := hid (show ((i : Int) + (j : Int)) / 2 = (h : Int) by omega)
   obtain ⟨x, hx⟩ : ∃ x, xs[h]? = some x := ⟨_, List.getElem?_eq_getElem (by omega)⟩
   have HX := hid hx
   obtain ⟨g, o, rfl, hcell⟩ := HC.out h x hx
   have HC2 := hid hcell
   clear hh0 hx hcell
   obtain ⟨b, hb0⟩ : ∃ b, decide ((x : Int) < (t : Int)) = b := ⟨_, rfl⟩
   have HB := hid hb0
   clear hb0
   go_wp2_with (first | refine x_q H ?_ | refine x_e (ev_half rfl rfl HH) ?_ | refine x_e (c_ldc rfl rfl (by have e := H.fr.cell HC2.out (by simp); simpa [iV] using e)) ?_)
   (refine x_c H (less_any _ x t HB) ?_; clear H; rintro e w1 ⟨rfl, hF⟩ H; clear hF)
   cases b
   ·have hge : t ≤ x := by have := HB.out; simp at this; omega
    have HHi2 := hid (fun k y => lb_dn (i := i) (j := j) HS.out HX.out hge k y)
    clear hge
    go_wp2_with fail
    go_roundw
    case rel => exact ⟨i, h, rfl, rfl, hh1, by omega, HLo, HHi2, H⟩
    case measure => (simp [intOf]; try omega)
   ·have hge : x < t := by have := HB.out; simp at this; omega
    have HLo2 := hid (fun k y => lb_up (i := i) (j := j) HS.out HX.out hge k y)
    clear hge
    go_wp2_with fail
    go_roundw
    case rel => exact ⟨h + 1, j, rfl, rfl, by omega, hj, HLo2, HHi, H⟩
    case measure => (simp [intOf]; try omega)
  ·obtain rfl : i = j := by omega
   have HL : Hid (Lb xs t i) := hid ⟨hj, HLo.out, HHi.out⟩
   clear HLo HHi
   by_cases hil : i < xs.length
   ·obtain ⟨x, hx⟩ : ∃ x, xs[i]? = some x := ⟨_, List.getElem?_eq_getElem (by omega)⟩
    obtain ⟨g, o, rfl, hcell⟩ := HC.out i x hx
    have HC2 := hid hcell
    have HX := hid hx
    clear hcell hx
    by_cases hxt : x = t
    ·have HR : Hid ((xs[i]? == some t) = true) := hid (by rw [HX.out, hxt]; simp)
     have HE : Hid ((x : Int) = (t : Int)) := hid (by rw [hxt])
     subst hxt
     go_wp2_with (first | refine x_q H ?_ | refine x_e (c_ldc rfl rfl (by have e := H.fr.cell HC2.out (by simp); simpa [iV] using e)) ?_)
     go_ret2
     exact ⟨i, by rw [HR.out]; rfl, H.fr, HL.out⟩
    ·have HR : Hid ((xs[i]? == some t) = false) := hid (by rw [HX.out]; simp [hxt])
     have hxt' : ¬ (x : Int) = (t : Int) := by omega
     clear hxt
     go_wp2_with (first | refine x_q H ?_ | refine x_e (c_ldc rfl rfl (by have e := H.fr.cell HC2.out (by simp); simpa [iV] using e)) ?_)
     (refine x_c H (isnanS_any _ x) ?_; clear H; rintro e w1 ⟨rfl, hF⟩ H; clear hF)
     go_wp2_with fail
     go_ret2
     exact ⟨i, by rw [HR.out]; rfl, H.fr, HL.out⟩
   ·have HR : Hid ((xs[i]? == some t) = false) := hid (by rw [List.getElem?_eq_none (by omega)]; simp)
    go_wp2_with (refine x_q H ?_)
    go_ret2
    exact ⟨i, by rw [HR.out]; rfl, H.fr, HL.out⟩
end Go.Proofs.YtbiohhmpclnpgaaGreatDoor
