/-
  The integers: Quo.
-/
import Derived.Test.YthbeeeclgbpopaaGreatDoorIw28
namespace Go.Proofs.YthbeeeclgbpopaaGreatDoor
open Go.RowKit
set_option linter.unusedSimpArgs false
set_option linter.unusedVariables false
set_option maxHeartbeats 4000000
set_option maxRecDepth 100000
theorem p_s2f {P : Program} {lo : List Oper} {S : World → Prop} {f i : Nat} {k : Plan} {Q : Exit → Act → World → Prop} {w w0 : World} {o : Oper} {T : List Nat} {l : List Ent} {L : List Value} {ds : List Deferred} {b : Nat} {l' : List Ent} {L' : List Value}
    (h : ∀ w', Fr [b] w w' → Hp T w0 w' l' → (∀ p c l, LR w p c l → LR w' p c l) → k.wp P lo.toArray Q (fun _ => True) lo.toArray.size ⟨L'.toArray, ds⟩ w') (hi : lo[i]? = some o := by rfl)
    (hw : Region.wanted o (yielded lo.toArray L.toArray) = true := by rfl)
    (he : Hp T w0 w l → ∀ K : Act → World → Prop, (∀ w', Fr [b] w w' → Hp T w0 w' l' → (∀ p c l, LR w p c l → LR w' p c l) → K (Act.put ⟨L.toArray, ds⟩ o.dst undef) w') → o.wp P ⟨L.toArray, ds⟩ w K Q := by intro H K hK; exact c_st2 H rfl rfl rfl (h := hK))
    (hs : putL L o.dst undef = L' := by ((try simp only [nrm, putL_s, putL_n, ↓reduceIte, Nat.reduceAdd]); (try exact rfl)))
    (H : Hp T w0 w l) : Plan.wp P lo.toArray Q S f (.ldf i k) ⟨L.toArray, ds⟩ w :=
  pl_rwf hi hw fun K hK => he H K fun w' h2 h3 h4 => hK _ _ (by rw [put_eq, hs]; exact h w' h2 h3 h4)
set_option maxHeartbeats 8000000 in
/-- DivMod by zero. -/
theorem divMod_zero {w : World} {p q : Option Addr} {n m c d : Nat} (na nb : Bool) (la lb : List Nat) (hn : la.length = n) (hm : lb.length = m) (hn0 : n ≤ 400000) (hm0 : m ≤ 400000) (h : LR w p c la) (k : LR w q d lb) (hb : val lb = 0) :
    Calls Tryz.prog 72 #[.agg #[.bool na, .slice p n c], .agg #[.bool nb, .slice q m d]] w fun e w' => ∃ v1 v2, e = .returned (.tuple #[v1, v2, .int .i64 8]) ∧ Fr [] w w' ∧ BigV w' v1 0 ∧ BigV w' v2 0 := by
  subst hn hm
  have Hk := hid k
  have hy0 : (digs (val lb)).length ≤ 0 := by rw [hb, digs_zero]; exact Nat.le_refl _
  have H := Hp.start [] w
  clear h k hb
  go_enter Tryz.func72, Tryz.ntmps72
  go_wp2_with (first | refine x_q H ?_ | refine x_cm (fun h => ?_) (fun h => ?_) | (revert H; (first | (refine x_g ?_; intro g w1 hg hf H) | (refine x_s ?_; intro w1 hf H)); ((first | replace hkk := hid (fun p c l h => (hkk.out p c l h).fr hf) | skip); clear hf)))
  (refine x_c H (trim_any lb rfl (Hk.out.fr H.fr)) ?_; clear H; rintro e w1 ⟨rfl, hF⟩ H)
  go_wp2_with (first | refine x_q H ?_ | refine x_cm (fun h => ?_) (fun h => ?_) | (revert H; refine x_s2 ?_; intro w1 hf H hk; (first | replace hkk := hid (fun p c l h => hk p c l (hkk.out p c l h)) | skip); clear hk; ((first | replace hkk := hid (fun p c l h => (hkk.out p c l h).fr hf) | skip); clear hf)) | (revert H; (first | (refine x_g ?_; intro g w1 hg hf H) | (refine x_s ?_; intro w1 hf H)); ((first | replace hkk := hid (fun p c l h => (hkk.out p c l h).fr hf) | skip); clear hf)))
  refine c_postCCT H rfl rfl rfl rfl rfl rfl ?_
  exact ⟨_, _, rfl, H.fr, BigV.zero _, BigV.zero _⟩
end Go.Proofs.YthbeeeclgbpopaaGreatDoor
