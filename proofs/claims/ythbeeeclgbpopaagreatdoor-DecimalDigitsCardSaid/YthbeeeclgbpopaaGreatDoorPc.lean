/-
  The end of a function whose results lie in memory, with a word beside them.
-/
import Derived.Test.YthbeeeclgbpopaaGreatDoorSx
import Derived.Laws.ResultCell
namespace Go.Proofs.YthbeeeclgbpopaaGreatDoor
open Go.RowKit
set_option linter.unusedSimpArgs false
set_option linter.unusedVariables false
section
variable {P : Program} {w w0 : World} {T : List Nat} {l : List Ent} {L : List Value}
theorem run_cell (H : Hp T w0 w l) {g : Nat} {ty : TypeId} {cs : List Value} {t' : TypeId} (hm : .blk g cs t' ∈ l) {n : Nat} (hs : rowOf P ty = some n) (hn : cs.length = n) : (loadVar ty ⟨g, 0, none⟩).run P w = .ok (.agg cs.toArray) w := by
  unfold rowOf at hs
  cases hu : P.underlying ty with
  | none => simp [hu] at hs
  | some d => exact run_loadVar_row w g t' ty cs.toArray (0, 0) d (H.get hm) hu (by cases d <;> simp_all) (by cases d <;> simp_all)
theorem c_postCT (H : Hp T w0 w l) {fn : Func} {R : Ending → World → Prop} {k u : Nat} {ty : TypeId} (hr : fn.results = #[.cell k ty, .tmp u]) {g : Nat} (hp : L[k]? = some (.pointer (some ⟨g, 0, none⟩))) {cs : List Value} {t' : TypeId} {f : Nat → List Value → List Ent} [i : In g cs t' l f] {n : Nat} [hs : Ro P ty n] (hn : cs.length = n) {v : Value} (hv : L[u]? = some v)
    (hR : R (.returned (.tuple #[.agg cs.toArray, v])) w) : bodyPost P fn R .ret ⟨L.toArray, []⟩ w := by
  refine bodyPost_ret (v := .tuple #[.agg cs.toArray, v]) ?_ rfl hR
  rw [results_cell_tmp hr]
  simp [hp, hv, asAddr, run_cell H i.mem hs.h hn]
theorem c_postCCT (H : Hp T w0 w l) {fn : Func} {R : Ending → World → Prop} {k k2 u : Nat} {ty ty2 : TypeId} (hr : fn.results = #[.cell k ty, .cell k2 ty2, .tmp u]) {g g2 : Nat} (hp : L[k]? = some (.pointer (some ⟨g, 0, none⟩))) (hp2 : L[k2]? = some (.pointer (some ⟨g2, 0, none⟩))) {cs cs2 : List Value} {t' t2 : TypeId} {f f2 : Nat → List Value → List Ent} [i : In g cs t' l f] [i2 : In g2 cs2 t2 l f2] {n n2 : Nat} [hs : Ro P ty n] [hs2 : Ro P ty2 n2] (hn : cs.length = n) (hn2 : cs2.length = n2) {v : Value} (hv : L[u]? = some v)
    (hR : R (.returned (.tuple #[.agg cs.toArray, .agg cs2.toArray, v])) w) : bodyPost P fn R .ret ⟨L.toArray, []⟩ w := by
  refine bodyPost_ret (v := .tuple #[.agg cs.toArray, .agg cs2.toArray, v]) ?_ rfl hR
  simp only [results, hr]
  simp [Sem.run_bind, Result.andThen, hp, hp2, hv, asAddr, run_cell H i.mem hs.h hn, run_cell H i2.mem hs2.h hn2]
theorem c_postCC (H : Hp T w0 w l) {fn : Func} {R : Ending → World → Prop} {k k2 : Nat} {ty ty2 : TypeId} (hr : fn.results = #[.cell k ty, .cell k2 ty2]) {g g2 : Nat} (hp : L[k]? = some (.pointer (some ⟨g, 0, none⟩))) (hp2 : L[k2]? = some (.pointer (some ⟨g2, 0, none⟩))) {cs cs2 : List Value} {t' t2 : TypeId} {f f2 : Nat → List Value → List Ent} [i : In g cs t' l f] [i2 : In g2 cs2 t2 l f2] {n n2 : Nat} [hs : Ro P ty n] [hs2 : Ro P ty2 n2] (hn : cs.length = n) (hn2 : cs2.length = n2)
    (hR : R (.returned (.tuple #[.agg cs.toArray, .agg cs2.toArray])) w) : bodyPost P fn R .ret ⟨L.toArray, []⟩ w := by
  refine bodyPost_ret (v := .tuple #[.agg cs.toArray, .agg cs2.toArray]) ?_ rfl hR
  simp only [results, hr]
  simp [Sem.run_bind, Result.andThen, hp, hp2, asAddr, run_cell H i.mem hs.h hn, run_cell H i2.mem hs2.h hn2]
end
end Go.Proofs.YthbeeeclgbpopaaGreatDoor
