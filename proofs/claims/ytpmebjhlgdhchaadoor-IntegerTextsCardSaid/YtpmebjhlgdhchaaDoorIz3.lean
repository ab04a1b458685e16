/-
  The laid tables of this seat's rows: a world that holds them, and what they give a walk.
-/
import Derived.Test.YtpmebjhlgdhchaaDoorIz2
import Derived.Test.YtpmebjhlgdhchaaDoorCards
import Derived.Test.YtpmebjhlgdhchaaDoorTie
namespace Go.Proofs.YtpmebjhlgdhchaaDoor
open Go.ChangeShapes Go.WideShapes Go.RowKit
set_option linter.unusedSimpArgs false
set_option linter.unusedVariables false
theorem own0 : ownKnob Tryd.prog.godebug = none := by kernel_rfl
theorem laidOut0 : laidOutB Tryd.prog = true := by kernel_rfl
def laid3 : List (String × DataW Unit) := [("math/bits.deBruijn32tab", Rows.laid_math_bits_deBruijn32tab), ("math/bits.deBruijn64tab", Rows.laid_math_bits_deBruijn64tab), ("internal/strconv.uint64pow10", Rows.laid_internal_strconv_uint64pow10)]
def vals (k : IntKind) (zs : List Int) : Array Value := (zs.map fun z => Value.int k z).toArray
def lits : DataW Unit → List Int
  | .agg l => l.map fun | .lit (.int _ z) => z | _ => 0
  | _ => []
/-- A world that meets the condition. -/
noncomputable def laidWorld (os : Os) : World :=
  let w0 := World.holding Tryd.prog os ⟨#[], #[], []⟩
  { w0 with heap := ((w0.heap.modify 0 fun
      | .cells _ t frozen => .cells (vals .u8 (lits Rows.laid_math_bits_deBruijn32tab)) t frozen
      | o => o).modify 5 fun
      | .cells _ t frozen => .cells (vals .u8 (lits Rows.laid_math_bits_deBruijn64tab)) t frozen
      | o => o).modify 3 fun
      | .cells _ t frozen => .cells (vals .u64 (lits Rows.laid_internal_strconv_uint64pow10)) t frozen
      | o => o }
theorem laid_met3 (os : Os) (args : Array Value) : laidMet Tryd.prog laid3 ((laidWorld os).forCall (fun _ _ => 0) ⟨#[], args, []⟩).memory :=
  laidMet_of_run' 8 (by kernel_rfl) (by kernel_rfl)
theorem laid_met (os : Os) (args : Array Value) : laidMetH Tryd.prog laid3 ((laidWorld os).forCall (fun _ _ => 0) ⟨#[], args, []⟩).memory := laid_met3 os args
theorem laid_pow {W : World} (h : laidMetH Tryd.prog laid3 W) : Lib.TabIs Tryd.prog W "internal/strconv.uint64pow10" .u64 Lib.pow10Tab := by
  have h' : laidMet Tryd.prog laid3 W := h
  have e : (Rows.laid_internal_strconv_uint64pow10 : DataW Unit) = Lib.tabData .u64 Lib.pow10Tab := by kernel_rfl
  have hr := Lib.laidMet.reads h' (n := "internal/strconv.uint64pow10") (d := Rows.laid_internal_strconv_uint64pow10) (.tail _ (.tail _ (.head _)))
  rw [e] at hr
  exact tabIs_of_reads (g := 3) (by kernel_rfl) (by kernel_rfl) Tryd.underlying133 Tryd.underlying57 (by kernel_rfl) (by kernel_rfl) hr
theorem wp_planF {P : Program} {ops : Array Oper} {Q : Exit → Act → World → Prop} {id : Nat} {a : Act} {w w0 : World} {T : List Nat} {l lS : List Ent} (H : Hp T w0 w l) (hs : List.Sublist lS l) (f : Nat) (p : Plan) (hm : P.follows .mixedOrders = true) (hns : Region.noSelect ops = true) (hc : p.chk ops f ops.size (Array.replicate ops.size false) = true)
    (hQ : ∀ c a d v w, Q (.panic c) (Act.put a d v) w → Q (.panic c) a w)
    (h : ∀ w', Fr [] w w' → Hp T w0 w' l → p.wp P ops Q (fun w => Hp T w0 w lS) f a w') : (Code.region id ops true).wp P Q a w :=
  wp_region_any hm (wpJ_any _ _ _ _ (Plan.sound hns hQ p _ _ _ _ _ _ (fun k o ho hk => by simp [Array.getElem?_replicate] at hk; split at hk <;> simp at hk) hc (.inl (H.drew.sub hs)) (h _ (Fr.drew _ _) H.drew)))
theorem w_pF {P : Program} {ops : Array Oper} {Q : Exit → Act → World → Prop} {id : Nat} {a : Act} {w w0 : World} {T : List Nat} {l lS : List Ent} (f : Nat) (p : Plan) (h : ∀ w', Fr [] w w' → Hp T w0 w' l → p.wp P ops Q (fun w => Hp T w0 w lS) f a w') (hs : List.Sublist lS l := by exact List.Sublist.refl _) (hm : P.follows .mixedOrders = true := by rfl) (hns : Region.noSelect ops = true := by kernel_rfl) (hc : p.chk ops f ops.size (Array.replicate ops.size false) = true := by kernel_rfl)
    (hQ : ∀ c a d v w, Q (.panic c) (Act.put a d v) w → Q (.panic c) a w := by intro c a d v w h; cases d <;> exact h) (H : Hp T w0 w l) : (Code.region id ops true).wp P Q a w := wp_planF H hs f p hm hns hc hQ h
theorem sign_nonneg' {x : Int} (hx : 0 ≤ x) : 0 ≤ Int.sign x := by
  obtain ⟨n, rfl⟩ := Int.eq_ofNat_of_zero_le hx
  cases n with
  | zero => exact Int.le_refl _
  | succ n => exact (by decide : (0 : Int) ≤ 1)
theorem sign_ge {w : World} {u : Value} {x : Int} {n : Nat} (h : Av w u x n) (hn : n ≤ 200000) (hx : 0 ≤ x) :
    Calls Tryd.prog 24 #[u] w fun e w' => ∃ s : Int, e = .returned (.int .i64 s) ∧ 0 ≤ s ∧ Fr [] w w' :=
  Calls.mono (sign_ar h hn) (fun e w' hb => ⟨_, hb.1, sign_nonneg' hx, hb.2⟩)
theorem cmp_below {w : World} {u v : Value} {x y : Int} {n m : Nat} (h : Av w u x n) (k : Av w v y m) (hn : n ≤ 200000) (hm : m ≤ 200000) (hx : x < y) :
    Calls Tryd.prog 22 #[u, v] w fun e w' => ∃ s : Int, e = .returned (.int .i64 s) ∧ s < 0 ∧ Fr [] w w' :=
  Calls.mono (cmp_ar h k hn hm) (fun e w' hb => ⟨_, hb.1, by rw [cmpZ_lt hx]; decide, hb.2⟩)
def IsBig (w : World) (v : Value) : Prop := ∃ (neg : Bool) (p : Option Addr) (c : Nat) (l : List Nat), v = .agg #[.bool neg, .slice p l.length c] ∧ LR w p c l
theorem slim_no {w : World} {neg : Bool} {l : List Nat} {p : Option Addr} {c : Nat} {k : Int} (h : LR w p c l) (hk : k < (l.length : Int)) :
    Calls Tryd.prog 8 #[.agg #[.bool neg, .slice p l.length c], .int .i64 k] w fun e w' => e = .returned (.bool false) ∧ Fr [] w w' := by
  have hs := slim_any (w := w) (p := p) (c := c) neg (z := k) (n := l.length) h.len
  rw [decide_eq_false (by omega)] at hs
  exact hs
end Go.Proofs.YtpmebjhlgdhchaaDoor
