import Derived.Test.YtbiohhmpclnpgaaGreatDoorXPz2
import Derived.Test.YtbiohhmpclnpgaaGreatDoorXSx
import Derived.Test.YtbiohhmpclnpgaaGreatDoorRows
import Derived.ChangeSame
import Derived.ChangeVars
import Derived.JoinedOf
import Derived.RowKit
import Derived.LaidLaws
import Derived.LaidHandle
import Derived.Stop.Joined
import Derived.Lib.LaidU8
import Derived.Lib.LaidTab
import Derived.Test.YtbiohhmpclnpgaaGreatDoorXIw32
import Derived.Test.YtbiohhmpclnpgaaGreatDoorCards
import Derived.Test.YtbiohhmpclnpgaaGreatDoorTie
namespace Go.Proofs.YtbiohhmpclnpgaaGreatDoor
open Go.ChangeShapes Go.WideShapes Go.RowKit
set_option linter.unusedSimpArgs false
set_option linter.unusedVariables false
section
variable {H : Type} {enc : TypeId × Value → H} {P : Program} {w : World} {base : Nat} {held : Bool}
end
theorem tabIs_of_reads {P : Program} {W : World} {name : String} {k : IntKind} {zs : List Int} {g : Nat} {t e : TypeId} {n : Nat}
  (hg : P.globalNamed name = some g) (hty : (P.globals[g]?).map (·.type) = some t) (ht : P.underlying t = some (.array n e)) (he : P.underlying e = some (.int k)) (hce : P.cellsOf e = 1) (hct : P.cellsOf t = n)
  (h : Lib.VarReads P W name (Lib.tabData k zs)) : Lib.TabIs P W name k zs := by
 obtain ⟨g', t', cs, fuel, p, hg', ht', hvar, hd⟩ := h
 obtain rfl := Option.some.inj (hg.symm.trans hg')
 obtain rfl := Option.some.inj (hty.symm.trans ht')
 unfold Lib.TabIs
 rw [hvar, ← Lib.cells_of_tab ht he hce hct hd]
end Go.Proofs.YtbiohhmpclnpgaaGreatDoor
namespace Go.Proofs.YtbiohhmpclnpgaaGreatDoor
open Go.RowKit
set_option linter.unusedSimpArgs false
set_option linter.unusedVariables false
def Av (w : World) (v : Value) (z : Int) (n : Nat) : Prop := ∃ neg l p c, v = .agg #[.bool neg, .slice p l.length c] ∧ LR w p c l ∧ zv neg l = z ∧ l.length ≤ n
def dl (z : Int) : Nat := (digs z.natAbs).length
def Bv (w : World) (v : Value) (z : Int) (n : Nat) : Prop := BigV w v z ∧ dl z ≤ n
theorem Av.fr {w w' : World} {v : Value} {z : Int} {n : Nat} (h : Av w v z n) (k : Fr [] w w') : Av w' v z n := by
 obtain ⟨neg, l, p, c, rfl, h1, h2, h3⟩ := h
 exact ⟨neg, l, p, c, rfl, h1.fr k, h2, h3⟩
theorem Bv.fr {w w' : World} {v : Value} {z : Int} {n : Nat} (h : Bv w v z n) (k : Fr [] w w') : Bv w' v z n := ⟨h.1.fr k, h.2⟩
theorem Bv.ar {w : World} {v : Value} {z : Int} {n : Nat} (h : Bv w v z n) : Av w v z n := by
 obtain ⟨⟨p, c, rfl, hl⟩, hn⟩ := h
 exact ⟨_, _, p, c, rfl, hl, zv_canon z, hn⟩
def Kp (w w' : World) : Prop := ∀ p c l, LR w p c l → LR w' p c l
theorem xSB {P : Program} {ops : Array Oper} {Q : Exit → Act → World → Prop} {w w0 : World} {rest : List Oper} {o : Oper} {T : List Nat} {l : List Ent} {L : List Value} {ds : List Deferred} {b : Nat} {l' : List Ent} {L' : List Value}
  (h : ∀ w', Hp T w0 w' l' → Kp w w' → wpList P ops Q rest ⟨L'.toArray, ds⟩ w')
  (hw : Region.wanted o (yielded ops L.toArray) = true := by rfl)
  (he : Hp T w0 w l → ∀ K : Act → World → Prop, (∀ w', Fr [b] w w' → Hp T w0 w' l' → (∀ p c l, LR w p c l → LR w' p c l) → K (Act.put ⟨L.toArray, ds⟩ o.dst undef) w') → o.wp P ⟨L.toArray, ds⟩ w K Q := by intro H K hK; exact c_st2 H rfl rfl rfl (h := hK))
  (hs : putL L o.dst undef = L' := by ((try simp only [nrm, putL_s, putL_n, ↓reduceIte, Nat.reduceAdd]); (try exact rfl))) (H : Hp T w0 w l) : wpList P ops Q (o :: rest) ⟨L.toArray, ds⟩ w := x_s2 (h := fun w' _ H k => h w' H k) (hw := hw) (he := he) (hs := hs) (H := H)
theorem pSB {P : Program} {lo : List Oper} {S : World → Prop} {f i : Nat} {k : Plan} {Q : Exit → Act → World → Prop} {w w0 : World} {o : Oper} {T : List Nat} {l : List Ent} {L : List Value} {ds : List Deferred} {b : Nat} {l' : List Ent} {L' : List Value}
  (h : ∀ w', Hp T w0 w' l' → Kp w w' → k.wp P lo.toArray Q S f ⟨L'.toArray, ds⟩ w') (hi : lo[i]? = some o := by rfl)
  (hw : Region.wanted o (yielded lo.toArray L.toArray) = true := by rfl)
  (he : Hp T w0 w l → ∀ K : Act → World → Prop, (∀ w', Fr [b] w w' → Hp T w0 w' l' → (∀ p c l, LR w p c l → LR w' p c l) → K (Act.put ⟨L.toArray, ds⟩ o.dst undef) w') → o.wp P ⟨L.toArray, ds⟩ w K Q := by intro H K hK; exact c_st2 H rfl rfl rfl (h := hK))
  (hs : putL L o.dst undef = L' := by ((try simp only [nrm, putL_s, putL_n, ↓reduceIte, Nat.reduceAdd]); (try exact rfl)))
  (hS : i ≠ f → ∀ w', Hp T w0 w' l' → S w' := by intro hne w' H1; first | exact absurd rfl hne | exact trivial | exact H1.sub (by repeat first | exact List.Sublist.refl _ | exact List.nil_sublist _ | apply List.Sublist.cons_cons | apply List.Sublist.cons))
  (H : Hp T w0 w l) : Plan.wp P lo.toArray Q S f (.ld i k) ⟨L.toArray, ds⟩ w := p_s2 (h := fun w' _ H k => h w' H k) (hi := hi) (hw := hw) (he := he) (hs := hs) (hS := hS) (H := H)
theorem Kp.refl (w : World) : Kp w w := fun _ _ _ h => h
theorem Kp.trans {a b c : World} (h : Kp a b) (k : Kp b c) : Kp a c := fun p q l x => k p q l (h p q l x)
theorem Fr.kp {w w' : World} (h : Fr [] w w') : Kp w w' := fun _ _ _ k => k.fr h
theorem lr {w w' : World} {p : Option Addr} {c : Nat} {l : List Nat} (h : Hid (LR w p c l)) (k : Kp w w' := by repeat first | assumption | exact Kp.refl _ | refine Kp.trans ?_ (by assumption)) : LR w' p c l := k _ _ _ h.out
theorem av {w w' : World} {v : Value} {z : Int} {n : Nat} (h : Hid (Av w v z n)) (k : Kp w w' := by repeat first | assumption | exact Kp.refl _ | refine Kp.trans ?_ (by assumption)) : Av w' v z n := by
 obtain ⟨neg, l, p, c, rfl, h1, h2, h3⟩ := h.out
 exact ⟨neg, l, p, c, rfl, k _ _ _ h1, h2, h3⟩
theorem bv {w w' : World} {v : Value} {z : Int} {n : Nat} (h : Hid (Bv w v z n)) (k : Kp w w' := by repeat first | assumption | exact Kp.refl _ | refine Kp.trans ?_ (by assumption)) : Bv w' v z n := by
 obtain ⟨⟨p, c, rfl, hl⟩, hn⟩ := h.out
 exact ⟨⟨p, c, rfl, k _ _ _ hl⟩, hn⟩
theorem Av.dl {w : World} {v : Value} {z : Int} {n : Nat} (h : Av w v z n) : dl z ≤ n := by
 obtain ⟨neg, l, p, c, rfl, h1, rfl, h3⟩ := h
 unfold Go.Proofs.YtbiohhmpclnpgaaGreatDoor.dl
 rw [zv_abs]
 exact Nat.le_trans (digs_len_le h1.lim) h3
theorem Big.bv {e : Ending} {w w' : World} {z : Int} {n : Nat} (h : Big e w w' z) (hn : dl z ≤ n) : ∃ v, e = .returned v ∧ Fr [] w w' ∧ Bv w' v z n := by
 obtain ⟨v, h1, h2, h3⟩ := Big.iff.1 h
 exact ⟨v, h1, h2, h3, hn⟩
theorem dl_of {x : Nat} {z : Int} (h : z.natAbs ≤ x) : dl z ≤ (digs x).length := digs_mono h
theorem dl_lt {z : Int} : z.natAbs < 4294967296 ^ dl z := digs_lt _
theorem dl_le {z : Int} {n : Nat} (h : z.natAbs < 4294967296 ^ n) : dl z ≤ n := digs_len_of h
theorem dl_add {x y : Int} {n m : Nat} (hx : dl x ≤ n) (hy : dl y ≤ m) : dl (x + y) ≤ n + m + 1 := by
 have h := digs_two (digs_lim x.natAbs) (digs_lim y.natAbs) (x := (x + y).natAbs) (by rw [val_digs, val_digs]; omega)
 unfold dl at *
 omega
theorem dl_neg (x : Int) : dl (-x) = dl x := by unfold dl; rw [Int.natAbs_neg]
theorem dl_sub {x y : Int} {n m : Nat} (hx : dl x ≤ n) (hy : dl y ≤ m) : dl (x - y) ≤ n + m + 1 := by
 rw [Int.sub_eq_add_neg]
 exact dl_add hx (by rw [dl_neg]; exact hy)
theorem dl_mul {x y : Int} {n m : Nat} (hx : dl x ≤ n) (hy : dl y ≤ m) : dl (x * y) ≤ n + m := by
 apply dl_le
 rw [Int.natAbs_mul, Nat.pow_add]
 have h1 : x.natAbs < 4294967296 ^ n := Nat.lt_of_lt_of_le dl_lt (Nat.pow_le_pow_right (by decide) hx)
 have h2 : y.natAbs < 4294967296 ^ m := Nat.lt_of_lt_of_le dl_lt (Nat.pow_le_pow_right (by decide) hy)
 exact Nat.mul_lt_mul'' h1 h2
theorem dl_abs (x : Int) : dl (x.natAbs : Int) = dl x := by unfold dl; rw [Int.natAbs_natCast]
theorem dl_div {x y : Int} {n : Nat} (hx : dl x ≤ n) : dl (x / y) ≤ n := Nat.le_trans (dl_of (Int.natAbs_ediv_le_natAbs x y)) hx
theorem dl_mod {x y : Int} {n : Nat} (hy : dl y ≤ n) (h0 : y ≠ 0) : dl (x % y) ≤ n := by
 refine Nat.le_trans (dl_of (x := y.natAbs) ?_) hy
 have h1 := Int.emod_nonneg x h0
 have h2 := Int.emod_lt x h0
 omega
theorem add_ar {w : World} {u v : Value} {x y : Int} {n m : Nat} (h : Av w u x n) (k : Av w v y m) (hn : n ≤ 200000) (hm : m ≤ 200000) :
  Calls Tryz.prog 140 #[u, v] w fun e w' => ∃ v', e = .returned v' ∧ Fr [] w w' ∧ Bv w' v' (x + y) (n + m + 1) := by
 have hdx := h.dl
 have hdy := k.dl
 obtain ⟨na, la, p, c, rfl, h1, rfl, h3⟩ := h
 obtain ⟨nb, lb, q, d, rfl, k1, rfl, k3⟩ := k
 exact Calls.mono (add_any na nb la lb rfl rfl (by omega) (by omega) h1 k1) (fun e w' hb => hb.bv (dl_add hdx hdy))
theorem sub_ar {w : World} {u v : Value} {x y : Int} {n m : Nat} (h : Av w u x n) (k : Av w v y m) (hn : n ≤ 200000) (hm : m ≤ 200000) :
  Calls Tryz.prog 176 #[u, v] w fun e w' => ∃ v', e = .returned v' ∧ Fr [] w w' ∧ Bv w' v' (x - y) (n + m + 1) := by
 have hdx := h.dl
 have hdy := k.dl
 obtain ⟨na, la, p, c, rfl, h1, rfl, h3⟩ := h
 obtain ⟨nb, lb, q, d, rfl, k1, rfl, k3⟩ := k
 exact Calls.mono (sub_any na nb la lb rfl rfl (by omega) (by omega) h1 k1) (fun e w' hb => hb.bv (dl_sub hdx hdy))
theorem mul_ar {w : World} {u v : Value} {x y : Int} {n m : Nat} (h : Av w u x n) (k : Av w v y m) (hn : n ≤ 200000) (hm : m ≤ 200000) :
  Calls Tryz.prog 19 #[u, v] w fun e w' => ∃ v', e = .returned v' ∧ Fr [] w w' ∧ Bv w' v' (x * y) (n + m) := by
 have hdx := h.dl
 have hdy := k.dl
 obtain ⟨na, la, p, c, rfl, h1, rfl, h3⟩ := h
 obtain ⟨nb, lb, q, d, rfl, k1, rfl, k3⟩ := k
 exact Calls.mono (mul_any na nb la lb rfl rfl (by omega) (by omega) h1 k1) (fun e w' hb => hb.bv (dl_mul hdx hdy))
theorem norm_ar {w : World} {u : Value} {x : Int} {n : Nat} (h : Av w u x n) (hn : n ≤ 200000) :
  Calls Tryz.prog 136 #[u] w fun e w' => ∃ v', e = .returned v' ∧ Fr [] w w' ∧ Bv w' v' (x) n := by
 have hdx := h.dl
 obtain ⟨na, la, p, c, rfl, h1, rfl, h3⟩ := h
 refine Calls.mono (norm_any na la rfl (by omega) h1) (fun e w' hb => ?_)
 have e1 : zv na la = zv na la := rfl
 rw [e1] at hb
 exact hb.bv (hdx)
theorem neg_ar {w : World} {u : Value} {x : Int} {n : Nat} (h : Av w u x n) (hn : n ≤ 200000) :
  Calls Tryz.prog 15 #[u] w fun e w' => ∃ v', e = .returned v' ∧ Fr [] w w' ∧ Bv w' v' (-x) n := by
 have hdx := h.dl
 obtain ⟨na, la, p, c, rfl, h1, rfl, h3⟩ := h
 refine Calls.mono (neg_any na la rfl (by omega) h1) (fun e w' hb => ?_)
 have e1 : zv (!na) la = -(zv na la) := zv_not na la
 rw [e1] at hb
 exact hb.bv ((by rw [dl_neg]; exact hdx))
theorem abs_ar {w : World} {u : Value} {x : Int} {n : Nat} (h : Av w u x n) (hn : n ≤ 200000) :
  Calls Tryz.prog 94 #[u] w fun e w' => ∃ v', e = .returned v' ∧ Fr [] w w' ∧ Bv w' v' ((x.natAbs : Int)) n := by
 have hdx := h.dl
 obtain ⟨na, la, p, c, rfl, h1, rfl, h3⟩ := h
 refine Calls.mono (abs_any na la rfl (by omega) h1) (fun e w' hb => ?_)
 have e1 : zv false la = ((zv na la).natAbs : Int) := (by rw [zv_abs]; rfl)
 rw [e1] at hb
 exact hb.bv ((by rw [dl_abs]; exact hdx))
theorem val_ne_of {n : Bool} {l : List Nat} (h : zv n l ≠ 0) : val l ≠ 0 := fun e => h (by unfold zv; rw [e]; cases n <;> rfl)
theorem divMod_ar {w : World} {u v : Value} {x y : Int} {n m : Nat} (h : Av w u x n) (k : Av w v y m) (hn : n ≤ 200000) (hm : m ≤ 200000) (h0 : y ≠ 0) :
  Calls Tryz.prog 99 #[u, v] w fun e w' => ∃ v1 v2, e = .returned (.tuple #[v1, v2, .int .i64 0]) ∧ Fr [] w w' ∧ Bv w' v1 (x / y) n ∧ Bv w' v2 (x % y) m := by
 have hdx := h.dl
 have hdy := k.dl
 obtain ⟨na, la, p, c, rfl, h1, rfl, h3⟩ := h
 obtain ⟨nb, lb, q, d, rfl, k1, rfl, k3⟩ := k
 refine Calls.mono (divMod_any na nb la lb rfl rfl (by omega) (by omega) h1 k1 (val_ne_of h0)) ?_
 rintro e w' ⟨v1, v2, rfl, hF, b1, b2⟩
 exact ⟨v1, v2, rfl, hF, ⟨b1, dl_div hdx⟩, ⟨b2, dl_mod hdy h0⟩⟩
theorem sign_ar {w : World} {u : Value} {x : Int} {n : Nat} (h : Av w u x n) (hn : n ≤ 200000) :
  Calls Tryz.prog 92 #[u] w fun e w' => e = .returned (.int .i64 (Int.sign x)) ∧ Fr [] w w' := by
 obtain ⟨na, la, p, c, rfl, h1, rfl, h3⟩ := h
 exact sign_any na la rfl (by omega) h1
theorem cmp_ar {w : World} {u v : Value} {x y : Int} {n m : Nat} (h : Av w u x n) (k : Av w v y m) (hn : n ≤ 200000) (hm : m ≤ 200000) :
  Calls Tryz.prog 177 #[u, v] w fun e w' => e = .returned (.int .i64 (cmpZ x y)) ∧ Fr [] w w' := by
 obtain ⟨na, la, p, c, rfl, h1, rfl, h3⟩ := h
 obtain ⟨nb, lb, q, d, rfl, k1, rfl, k3⟩ := k
 exact cmp_any na nb la lb rfl rfl (by omega) (by omega) h1 k1
theorem fromInt_ar (w : World) (z : Int) (hz : inr .i64 z) :
  Calls Tryz.prog 54 #[.int .i64 z] w fun e w' => ∃ v', e = .returned v' ∧ Fr [] w w' ∧ Bv w' v' z 2 := by
 refine Calls.mono (fromInt_any w z hz) (fun e w' hb => hb.bv (dl_le ?_))
 have h1 : -9223372036854775808 ≤ z ∧ z ≤ 9223372036854775807 := hz
 have h3 : (4294967296 : Nat) ^ 2 = 18446744073709551616 := by decide
 omega
theorem int_ar {w : World} {u : Value} {x : Int} {n : Nat} (h : Av w u x n) (hn : n ≤ 200000) (hx : -9223372036854775808 ≤ x ∧ x ≤ 9223372036854775807) :
  Calls Tryz.prog 68 #[u] w fun e w' => e = .returned (.tuple #[.int .i64 x, .bool true]) ∧ Fr [] w w' := by
 obtain ⟨na, la, p, c, rfl, h1, rfl, h3⟩ := h
 have hi := int_any na la rfl (by omega) h1 (.inr hx)
 rw [intV, if_pos hx] at hi
 exact hi
end Go.Proofs.YtbiohhmpclnpgaaGreatDoor
namespace Go.Proofs.YtbiohhmpclnpgaaGreatDoor
open Go.RowKit
set_option linter.unusedSimpArgs false
set_option linter.unusedVariables false
set_option maxHeartbeats 4000000
set_option maxRecDepth 100000
theorem Bv.form {w : World} {v : Value} {z : Int} {n : Nat} (h : Bv w v z n) : ∃ b p m c, v = .agg #[.bool b, .slice p m c] := by
 obtain ⟨⟨p, c, rfl, _⟩, _⟩ := h
 exact ⟨_, _, _, _, rfl⟩
theorem Av.form {w : World} {v : Value} {z : Int} {n : Nat} (h : Av w v z n) : ∃ b p m c, v = .agg #[.bool b, .slice p m c] := by
 obtain ⟨_, _, p, c, rfl, _⟩ := h
 exact ⟨_, _, _, _, rfl⟩
end Go.Proofs.YtbiohhmpclnpgaaGreatDoor
namespace Go.Proofs.YtbiohhmpclnpgaaGreatDoor
open Go.ChangeShapes Go.WideShapes Go.RowKit
set_option linter.unusedSimpArgs false
set_option linter.unusedVariables false
theorem own0 : ownKnob Tryz.prog.godebug = none := by kernel_rfl
def vals (k : IntKind) (zs : List Int) : Array Value := (zs.map fun z => Value.int k z).toArray
def lits : DataW Unit → List Int
 | .agg l => l.map fun | .lit (.int _ z) => z | _ => 0
 | _ => []
theorem wp_planF {P : Program} {ops : Array Oper} {Q : Exit → Act → World → Prop} {id : Nat} {a : Act} {w w0 : World} {T : List Nat} {l lS : List Ent} (H : Hp T w0 w l) (hs : List.Sublist lS l) (f : Nat) (p : Plan) (hm : P.follows .mixedOrders = true) (hns : Region.noSelect ops = true) (hc : p.chk ops f ops.size (Array.replicate ops.size false) = true)
  (hQ : ∀ c a d v w, Q (.panic c) (Act.put a d v) w → Q (.panic c) a w)
  (h : ∀ w', Fr [] w w' → Hp T w0 w' l → p.wp P ops Q (fun w => Hp T w0 w lS) f a w') : (Code.region id ops true).wp P Q a w :=
 wp_region_any hm (wpJ_any _ _ _ _ (Plan.sound hns hQ p _ _ _ _ _ _ (fun k o ho hk => by simp [Array.getElem?_replicate] at hk; split at hk <;> simp at hk) hc (.inl (H.drew.sub hs)) (h _ (Fr.drew _ _) H.drew)))
theorem w_pF {P : Program} {ops : Array Oper} {Q : Exit → Act → World → Prop} {id : Nat} {a : Act} {w w0 : World} {T : List Nat} {l lS : List Ent} (f : Nat) (p : Plan) (h : ∀ w', Fr [] w w' → Hp T w0 w' l → p.wp P ops Q (fun w => Hp T w0 w lS) f a w') (hs : List.Sublist lS l := by exact List.Sublist.refl _) (hm : P.follows .mixedOrders = true := by rfl) (hns : Region.noSelect ops = true := by kernel_rfl) (hc : p.chk ops f ops.size (Array.replicate ops.size false) = true := by kernel_rfl)
  (hQ : ∀ c a d v w, Q (.panic c) (Act.put a d v) w → Q (.panic c) a w := by intro c a d v w h; cases d <;> exact h) (H : Hp T w0 w l) : (Code.region id ops true).wp P Q a w := wp_planF H hs f p hm hns hc hQ h
end Go.Proofs.YtbiohhmpclnpgaaGreatDoor
namespace Go.Proofs.YtbiohhmpclnpgaaGreatDoor
open Go.RowKit
set_option linter.unusedSimpArgs false
set_option linter.unusedVariables false
theorem sign_is0 {w : World} {u : Value} {x : Int} {n : Nat} (h : Av w u x n) (hn : n ≤ 200000) (hx : x = 0) :
  Calls Tryz.prog 92 #[u] w fun e w' => e = .returned (.int .i64 0) ∧ Fr [] w w' := by
 subst hx
 exact sign_ar h hn
theorem bv_zero (w : World) : Bv w (.agg #[.bool false, .slice none 0 0]) 0 0 := ⟨BigV.zero w, by simp [dl, digs_zero]⟩
theorem Bv.mono {w : World} {v : Value} {z : Int} {n m : Nat} (h : Bv w v z n) (hm : n ≤ m) : Bv w v z m := ⟨h.1, Nat.le_trans h.2 hm⟩
end Go.Proofs.YtbiohhmpclnpgaaGreatDoor
namespace Go.Proofs.YtbiohhmpclnpgaaGreatDoor
open Go.RowKit
set_option linter.unusedSimpArgs false
set_option linter.unusedVariables false
inductive Rm (e : Ent) : List Ent → List Ent → Prop where
 | here (l : List Ent) : Rm e (e :: l) l
 | there {x : Ent} {l l2 : List Ent} (h : Rm e l l2) : Rm e (x :: l) (x :: l2)
theorem Rm.perm {e : Ent} {l l2 : List Ent} (h : Rm e l l2) : List.Perm l (e :: l2) := by
 induction h with
 | here l => exact List.Perm.refl _
 | there h ih => exact (List.Perm.cons _ ih).trans (List.Perm.swap _ _ _)
inductive Pm : List Ent → List Ent → Prop where
 | nil (l : List Ent) : Pm l []
 | cons {e : Ent} {l l2 r : List Ent} (h : Rm e l l2) (k : Pm l2 r) : Pm l (e :: r)
theorem Pm.sub {l r : List Ent} (h : Pm l r) : ∃ m, List.Perm l m ∧ List.Sublist r m := by
 induction h with
 | nil l => exact ⟨l, List.Perm.refl _, List.nil_sublist _⟩
 | cons h k ih =>
  obtain ⟨m, h1, h2⟩ := ih
  exact ⟨_, h.perm.trans (List.Perm.cons _ h1), h2.cons_cons _⟩
theorem Hp.arr {T : List Nat} {w0 w : World} {l r : List Ent} (H : Hp T w0 w l) (h : Pm l r) : Hp T w0 w r := by
 obtain ⟨m, h1, h2⟩ := h.sub
 exact (H.perm h1).sub h2
section
variable {P : Program} {w w0 : World} {a : Act} {o : Oper} {T : List Nat} {l : List Ent} {K : Act → World → Prop} {Q : Exit → Act → World → Prop}
theorem ev_max {x y : Operand} {t t' : TypeId} (ho : o.op = .call { callee := .builtin .max, args := #[x, y], argTypes := #[t, t'] }) {k : IntKind} {m n z : Int} (hx : a.eval x = .int k m) (hy : a.eval y = .int k n) (hz : max m n = z := by first | rfl | assumption | omega) : (execOp a.eval o).run P w = .ok (.value (.int k z)) w := by
 have e : (if n > m then n else m) = z := by rw [← hz]; split <;> omega
 unfold execOp
 simp [ho, hx, hy, resolve, invoke, builtin, Builtin.max_, Builtin.max2, e]
theorem ev_min {x y : Operand} {t t' : TypeId} (ho : o.op = .call { callee := .builtin .min, args := #[x, y], argTypes := #[t, t'] }) {k : IntKind} {m n z : Int} (hx : a.eval x = .int k m) (hy : a.eval y = .int k n) (hz : min m n = z := by first | rfl | assumption | omega) : (execOp a.eval o).run P w = .ok (.value (.int k z)) w := by
 have e : (if n < m then n else m) = z := by rw [← hz]; split <;> omega
 unfold execOp
 simp [ho, hx, hy, resolve, invoke, builtin, Builtin.min_, Builtin.min2, e]
theorem c_lf (H : Hp T w0 w l) {t : TypeId} {x : Operand} (ho : o.op = .load t x) {b p : Nat} (hx : a.eval x = .pointer (some ⟨b, p, none⟩)) {n : Nat} [s : Ro P t n] {cs : List Value} {t' : TypeId} {f : Nat → List Value → List Ent} [i : In b cs t' l f] {vs : List Value} (hv : (cs.drop p).take n = vs := by ((try simp only [List.drop_succ_cons, List.drop_zero, List.take_succ_cons, List.take_zero]); exact rfl)) (hn : vs.length = n := by rfl) : (execOp a.eval o).run P w = .ok (.value (.agg vs.toArray)) w :=
 c_lnp H ho hx (vs := vs) (hv := ⟨(cs.drop p).drop n, by rw [← hv]; exact List.take_append_drop _ _⟩) hn
theorem over_all {cs vs : List Value} (h : cs.length = vs.length) : over cs 0 vs = vs := by
 unfold over; rw [Nat.zero_add, List.drop_of_length_le (by omega)]; simp
theorem c_stF (H : Hp T w0 w l) {t : TypeId} {x y : Operand} (ho : o.op = .store t x y) {b : Nat} {vs : List Value} (hx : a.eval x = .pointer (some ⟨b, 0, none⟩)) (hy : a.eval y = .agg vs.toArray) {n : Nat} [hs : Ro P t n] {cs : List Value} {t' : TypeId} {f : Nat → List Value → List Ent} [hm : In b cs t' l f] (hn : vs.length = n := by rfl) (hc : cs.length = n := by rfl)
  (h1 : ∀ v ∈ vs, v.oneCell' = true := by intro z hz; simp only [List.mem_cons, List.not_mem_nil, or_false] at hz; rcases hz with rfl | rfl | rfl | rfl | rfl | rfl <;> rfl) (h3 : ∀ u ∈ cs, ∀ x, u ≠ .int .u32 x := by intro z hz x; simp only [List.mem_cons, List.not_mem_nil, or_false] at hz; rcases hz with rfl | rfl | rfl | rfl | rfl | rfl <;> (intro h; cases h))
  (h : ∀ w', Fr [b] w w' → Hp T w0 w' (f b vs) → (∀ p c l, LR w p c l → LR w' p c l) → K (a.put o.dst undef) w') : o.wp P a w K Q :=
 c_stn H ho hx (vs := vs) hy hn h1 (by omega) (fun w' hf H1 => h w' hf (by rw [over_all (by omega)] at H1; exact H1) (fun p c l hL => hL.keep (H.at b) h3 hf))
end
section
variable {P : Program} {ops : Array Oper} {Q : Exit → Act → World → Prop} {w w0 : World} {rest lo : List Oper} {o : Oper} {T : List Nat} {l : List Ent} {L : List Value} {ds : List Deferred} {S : World → Prop} {fi i : Nat} {k : Plan}
theorem x_l (H : Hp T w0 w l) {v : Value} {L' : List Value} (h : wpList P ops Q rest ⟨L'.toArray, ds⟩ w) (hw : Region.wanted o (yielded ops L.toArray) = true := by rfl)
  (he : Hp T w0 w l → (execOp (Act.mk L.toArray ds).eval o).run P w = .ok (.value v) w := by intro H; refine g_ld rfl ?_; exact c_lf H rfl rfl)
  (hs : putL L o.dst v = L' := by ((try simp only [nrm, putL_s, putL_n, ↓reduceIte, Nat.reduceAdd]); (try exact rfl))) : wpList P ops Q (o :: rest) ⟨L.toArray, ds⟩ w := x_e (he H) h hw hs
theorem x_sF {b : Nat} {l' : List Ent} {L' : List Value}
  (h : ∀ w', Fr [b] w w' → Hp T w0 w' l' → (∀ p c l, LR w p c l → LR w' p c l) → wpList P ops Q rest ⟨L'.toArray, ds⟩ w')
  (hw : Region.wanted o (yielded ops L.toArray) = true := by rfl)
  (he : Hp T w0 w l → ∀ K : Act → World → Prop, (∀ w', Fr [b] w w' → Hp T w0 w' l' → (∀ p c l, LR w p c l → LR w' p c l) → K (Act.put ⟨L.toArray, ds⟩ o.dst undef) w') → o.wp P ⟨L.toArray, ds⟩ w K Q := by intro H K hK; exact c_stF H rfl rfl rfl (h := hK))
  (hs : putL L o.dst undef = L' := by ((try simp only [nrm, putL_s, putL_n, ↓reduceIte, Nat.reduceAdd]); (try exact rfl))) (H : Hp T w0 w l) : wpList P ops Q (o :: rest) ⟨L.toArray, ds⟩ w :=
 wl_rw hw fun K hK => he H K fun w' h2 h3 h4 => hK _ _ (by rw [put_eq, hs]; exact h w' h2 h3 h4)
theorem xSF {b : Nat} {l' : List Ent} {L' : List Value}
  (h : ∀ w', Hp T w0 w' l' → Kp w w' → wpList P ops Q rest ⟨L'.toArray, ds⟩ w')
  (hw : Region.wanted o (yielded ops L.toArray) = true := by rfl)
  (he : Hp T w0 w l → ∀ K : Act → World → Prop, (∀ w', Fr [b] w w' → Hp T w0 w' l' → (∀ p c l, LR w p c l → LR w' p c l) → K (Act.put ⟨L.toArray, ds⟩ o.dst undef) w') → o.wp P ⟨L.toArray, ds⟩ w K Q := by intro H K hK; exact c_stF H rfl rfl rfl (h := hK))
  (hs : putL L o.dst undef = L' := by ((try simp only [nrm, putL_s, putL_n, ↓reduceIte, Nat.reduceAdd]); (try exact rfl))) (H : Hp T w0 w l) : wpList P ops Q (o :: rest) ⟨L.toArray, ds⟩ w := x_sF (h := fun w' _ H k => h w' H k) (hw := hw) (he := he) (hs := hs) (H := H)
theorem p_sF {b : Nat} {l' : List Ent} {L' : List Value}
  (h : ∀ w', Fr [b] w w' → Hp T w0 w' l' → (∀ p c l, LR w p c l → LR w' p c l) → k.wp P lo.toArray Q S fi ⟨L'.toArray, ds⟩ w') (hi : lo[i]? = some o := by rfl)
  (hw : Region.wanted o (yielded lo.toArray L.toArray) = true := by rfl)
  (he : Hp T w0 w l → ∀ K : Act → World → Prop, (∀ w', Fr [b] w w' → Hp T w0 w' l' → (∀ p c l, LR w p c l → LR w' p c l) → K (Act.put ⟨L.toArray, ds⟩ o.dst undef) w') → o.wp P ⟨L.toArray, ds⟩ w K Q := by intro H K hK; exact c_stF H rfl rfl rfl (h := hK))
  (hs : putL L o.dst undef = L' := by ((try simp only [nrm, putL_s, putL_n, ↓reduceIte, Nat.reduceAdd]); (try exact rfl)))
  (hS : i ≠ fi → ∀ w', Hp T w0 w' l' → S w' := by intro hne w' H1; first | exact absurd rfl hne | exact trivial | exact H1.sub (by repeat first | exact List.Sublist.refl _ | exact List.nil_sublist _ | apply List.Sublist.cons_cons | apply List.Sublist.cons))
  (H : Hp T w0 w l) : Plan.wp P lo.toArray Q S fi (.ld i k) ⟨L.toArray, ds⟩ w :=
 pl_rw hi hw fun K hK => he H K fun w' h2 h3 h4 => hK _ _ (fun hne => hS hne w' h3) (by rw [put_eq, hs]; exact h w' h2 h3 h4)
theorem pSF {b : Nat} {l' : List Ent} {L' : List Value}
  (h : ∀ w', Hp T w0 w' l' → Kp w w' → k.wp P lo.toArray Q S fi ⟨L'.toArray, ds⟩ w') (hi : lo[i]? = some o := by rfl)
  (hw : Region.wanted o (yielded lo.toArray L.toArray) = true := by rfl)
  (he : Hp T w0 w l → ∀ K : Act → World → Prop, (∀ w', Fr [b] w w' → Hp T w0 w' l' → (∀ p c l, LR w p c l → LR w' p c l) → K (Act.put ⟨L.toArray, ds⟩ o.dst undef) w') → o.wp P ⟨L.toArray, ds⟩ w K Q := by intro H K hK; exact c_stF H rfl rfl rfl (h := hK))
  (hs : putL L o.dst undef = L' := by ((try simp only [nrm, putL_s, putL_n, ↓reduceIte, Nat.reduceAdd]); (try exact rfl)))
  (hS : i ≠ fi → ∀ w', Hp T w0 w' l' → S w' := by intro hne w' H1; first | exact absurd rfl hne | exact trivial | exact H1.sub (by repeat first | exact List.Sublist.refl _ | exact List.nil_sublist _ | apply List.Sublist.cons_cons | apply List.Sublist.cons))
  (H : Hp T w0 w l) : Plan.wp P lo.toArray Q S fi (.ld i k) ⟨L.toArray, ds⟩ w := p_sF (h := fun w' _ H k => h w' H k) (hi := hi) (hw := hw) (he := he) (hs := hs) (hS := hS) (H := H)
theorem p_sFf {b : Nat} {l' : List Ent} {L' : List Value}
  (h : ∀ w', Fr [b] w w' → Hp T w0 w' l' → (∀ p c l, LR w p c l → LR w' p c l) → k.wp P lo.toArray Q (fun _ => True) lo.toArray.size ⟨L'.toArray, ds⟩ w') (hi : lo[i]? = some o := by rfl)
  (hw : Region.wanted o (yielded lo.toArray L.toArray) = true := by rfl)
  (he : Hp T w0 w l → ∀ K : Act → World → Prop, (∀ w', Fr [b] w w' → Hp T w0 w' l' → (∀ p c l, LR w p c l → LR w' p c l) → K (Act.put ⟨L.toArray, ds⟩ o.dst undef) w') → o.wp P ⟨L.toArray, ds⟩ w K Q := by intro H K hK; exact c_stF H rfl rfl rfl (h := hK))
  (hs : putL L o.dst undef = L' := by ((try simp only [nrm, putL_s, putL_n, ↓reduceIte, Nat.reduceAdd]); (try exact rfl)))
  (H : Hp T w0 w l) : Plan.wp P lo.toArray Q S fi (.ldf i k) ⟨L.toArray, ds⟩ w :=
 pl_rwf hi hw fun K hK => he H K fun w' h2 h3 h4 => hK _ _ (by rw [put_eq, hs]; exact h w' h2 h3 h4)
theorem pSG {b : Nat} {l' : List Ent} {L' : List Value}
  (h : ∀ w', Hp T w0 w' l' → Kp w w' → k.wp P lo.toArray Q (fun _ => True) lo.toArray.size ⟨L'.toArray, ds⟩ w') (hi : lo[i]? = some o := by rfl)
  (hw : Region.wanted o (yielded lo.toArray L.toArray) = true := by rfl)
  (he : Hp T w0 w l → ∀ K : Act → World → Prop, (∀ w', Fr [b] w w' → Hp T w0 w' l' → (∀ p c l, LR w p c l → LR w' p c l) → K (Act.put ⟨L.toArray, ds⟩ o.dst undef) w') → o.wp P ⟨L.toArray, ds⟩ w K Q := by intro H K hK; exact c_stF H rfl rfl rfl (h := hK))
  (hs : putL L o.dst undef = L' := by ((try simp only [nrm, putL_s, putL_n, ↓reduceIte, Nat.reduceAdd]); (try exact rfl)))
  (H : Hp T w0 w l) : Plan.wp P lo.toArray Q S fi (.ldf i k) ⟨L.toArray, ds⟩ w := p_sFf (h := fun w' _ H k => h w' H k) (hi := hi) (hw := hw) (he := he) (hs := hs) (H := H)
theorem p_l {v : Value} {L' : List Value} (h : k.wp P lo.toArray Q S fi ⟨L'.toArray, ds⟩ w) (hi : lo[i]? = some o := by rfl) (hw : Region.wanted o (yielded lo.toArray L.toArray) = true := by rfl)
  (he : ∀ w, S w → (execOp (Act.mk L.toArray ds).eval o).run P w = .ok (.value v) w := by intro w H; refine g_ld rfl ?_; exact c_lf H rfl rfl)
  (hs : putL L o.dst v = L' := by ((try simp only [nrm, putL_s, putL_n, ↓reduceIte, Nat.reduceAdd]); (try exact rfl))) : Plan.wp P lo.toArray Q S fi (.st i k) ⟨L.toArray, ds⟩ w :=
 p_e hi he h hw hs
theorem c_postCTT (H : Hp T w0 w l) {fn : Func} {R : Ending → World → Prop} {k u u2 : Nat} {ty : TypeId} (hr : fn.results = #[.cell k ty, .tmp u, .tmp u2]) {g : Nat} (hp : L[k]? = some (.pointer (some ⟨g, 0, none⟩))) {cs : List Value} {t' : TypeId} {f : Nat → List Value → List Ent} [i : In g cs t' l f] {n : Nat} [hs : Ro P ty n] (hn : cs.length = n) {v v2 : Value} (hv : L[u]? = some v) (hv2 : L[u2]? = some v2)
  (hR : R (.returned (.tuple #[.agg cs.toArray, v, v2])) w) : bodyPost P fn R .ret ⟨L.toArray, []⟩ w := by
 refine bodyPost_ret (v := .tuple #[.agg cs.toArray, v, v2]) ?_ rfl hR
 simp only [results, hr]
 simp [Sem.run_bind, Result.andThen, hp, hv, hv2, asAddr, run_cell H i.mem hs.h hn]
end
theorem c_ldc {P : Program} {a : Act} {w : World} {o : Oper} {t : TypeId} {x : Operand} (ho : o.op = .load t x) {ad : Addr} {v : Value} (hx : a.eval x = .pointer (some ad)) [s : Sc P t] (hc : w.cell? ad = some v) : (execOp a.eval o).run P w = .ok (.value v) w := ev_load ho hx s.h hc
end Go.Proofs.YtbiohhmpclnpgaaGreatDoor
