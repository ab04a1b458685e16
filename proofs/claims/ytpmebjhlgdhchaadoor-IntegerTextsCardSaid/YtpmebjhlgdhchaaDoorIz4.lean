/-
  Signs, as the laws ask for them.
-/
import Derived.Test.YtpmebjhlgdhchaaDoorIz3
namespace Go.Proofs.YtpmebjhlgdhchaaDoor
open Go.RowKit
set_option linter.unusedSimpArgs false
set_option linter.unusedVariables false
theorem sign_is0 {w : World} {u : Value} {x : Int} {n : Nat} (h : Av w u x n) (hn : n ≤ 200000) (hx : x = 0) :
    Calls Tryd.prog 24 #[u] w fun e w' => e = .returned (.int .i64 0) ∧ Fr [] w w' := by
  subst hx
  exact sign_ar h hn
theorem sign_pos0 {x : Int} (hx : 0 < x) : 0 < Int.sign x := by
  obtain ⟨n, rfl⟩ := Int.eq_ofNat_of_zero_le (Int.le_of_lt hx)
  cases n with
  | zero => exact absurd hx (by decide)
  | succ n => exact (by decide : (0 : Int) < 1)
theorem sign_gt0 {w : World} {u : Value} {x : Int} {n : Nat} (h : Av w u x n) (hn : n ≤ 200000) (hx : 0 < x) :
    Calls Tryd.prog 24 #[u] w fun e w' => ∃ s : Int, e = .returned (.int .i64 s) ∧ 0 < s ∧ Fr [] w w' :=
  Calls.mono (sign_ar h hn) (fun e w' hb => ⟨_, hb.1, sign_pos0 hx, hb.2⟩)
theorem bv_zero (w : World) : Bv w (.agg #[.bool false, .slice none 0 0]) 0 0 := ⟨BigV.zero w, by simp [dl, digs_zero]⟩
end Go.Proofs.YtpmebjhlgdhchaaDoor
