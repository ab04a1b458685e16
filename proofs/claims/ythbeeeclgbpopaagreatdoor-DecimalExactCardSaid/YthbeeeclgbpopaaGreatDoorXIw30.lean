/-
  The integers: Quo.
-/
import Derived.Test.YthbeeeclgbpopaaGreatDoorXIw28
namespace Go.Proofs.YthbeeeclgbpopaaGreatDoor
open Go.RowKit
set_option linter.unusedSimpArgs false
set_option linter.unusedVariables false
set_option maxHeartbeats 4000000
set_option maxRecDepth 100000
theorem p_s2f {P : Program} {lo : List Oper} {S : World → Prop} {f i : Nat} {k : Plan} {Q : Exit → Act → World → Prop} {w w0 : World} {o : Oper} {T : List Nat} {l : List Ent} {L : List Value} {ds : List Deferred} {b : Nat} {l' : List Ent} {L' : List Value}
    (h : ∀ w', Fr [b] w w' → Hp T w0 w' l' → (∀ p c l, LR w p c l → LR w' p c l) → k.wp P lo.toArray Q (fun _ => True) lo.toArray.size ⟨L'.toArray, ds⟩ w') (hi : lo[i]? = some o := by rfl)
    (hw : Region.wanted o (yielded lo.toArray L.toArray) = true := by rfl)
    (he : Hp T w0 w l → ∀ K : Act → World → Prop, (∀ w', Fr [b] w w' → Hp T w0 w' l' → (∀ p c l, LR w p c l → LR w' p c l) → K (Act.put ⟨L.toArray, ds⟩ o.dst undef) w') → o.wp P ⟨L.toArray, ds⟩ w K Q := by intro H K hK; exact c_st2 H rfl rfl rfl (h := hK))
    (hs : putL L o.dst undef = L' := by ((try simp only [nrm, putL_s, putL_n, ↓reduceIte, Nat.reduceAdd]); (try exact rfl)))
    (H : Hp T w0 w l) : Plan.wp P lo.toArray Q S f (.ldf i k) ⟨L.toArray, ds⟩ w :=
  pl_rwf hi hw fun K hK => he H K fun w' h2 h3 h4 => hK _ _ (by rw [put_eq, hs]; exact h w' h2 h3 h4)
end Go.Proofs.YthbeeeclgbpopaaGreatDoor
