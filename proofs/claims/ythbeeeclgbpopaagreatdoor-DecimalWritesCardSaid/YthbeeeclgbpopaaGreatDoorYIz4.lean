import Derived.Test.YthbeeeclgbpopaaGreatDoorYIw34
import Derived.Test.YthbeeeclgbpopaaGreatDoorYSx
import Derived.Test.YthbeeeclgbpopaaGreatDoorRows
import Derived.ChangeSame
import Derived.ChangeVars
import Derived.JoinedOf
import Derived.RowKit
import Derived.LaidLaws
import Derived.LaidHandle
import Derived.Stop.Joined
import Derived.Lib.LaidU8
import Derived.Lib.LaidTab
import Derived.Test.YthbeeeclgbpopaaGreatDoorYIw32
import Derived.Test.YthbeeeclgbpopaaGreatDoorCards
import Derived.Test.YthbeeeclgbpopaaGreatDoorTie
namespace Go.Proofs.YthbeeeclgbpopaaGreatDoor
open Go.ChangeShapes Go.WideShapes Go.RowKit
set_option linter.unusedSimpArgs false
set_option linter.unusedVariables false
section
variable {H : Type} {enc : TypeId × Value → H} {P : Program} {w : World} {base : Nat} {held : Bool}
end
theorem tabIs_of_reads {P : Program} {W : World} {name : String} {k : IntKind} {zs : List Int} {g : Nat} {t e : TypeId} {n : Nat}
  (hg : P.globalNamed name = some g) (hty : (P.globals[g]?).map (·.type) = some t) (ht : P.underlying t = some (.array n e)) (he : P.underlying e = some (.int k)) (hce : P.cellsOf e = 1) (hct : P.cellsOf t = n)
  (h : Lib.VarReads P W name (Lib.tabData k zs)) : Lib.TabIs P W name k zs := by
 obtain ⟨g', t', cs, fuel, p, hg', ht', hvar, hd⟩ := h
 obtain rfl := Option.some.inj (hg.symm.trans hg')
 obtain rfl := Option.some.inj (hty.symm.trans ht')
 unfold Lib.TabIs
 rw [hvar, ← Lib.cells_of_tab ht he hce hct hd]
end Go.Proofs.YthbeeeclgbpopaaGreatDoor
namespace Go.Proofs.YthbeeeclgbpopaaGreatDoor
open Go.RowKit
set_option linter.unusedSimpArgs false
set_option linter.unusedVariables false
def Av (w : World) (v : Value) (z : Int) (n : Nat) : Prop := ∃ neg l p c, v = .agg #[.bool neg, .slice p l.length c] ∧ LR w p c l ∧ zv neg l = z ∧ l.length ≤ n
def dl (z : Int) : Nat := (digs z.natAbs).length
def Bv (w : World) (v : Value) (z : Int) (n : Nat) : Prop := BigV w v z ∧ dl z ≤ n
theorem Av.fr {w w' : World} {v : Value} {z : Int} {n : Nat} (h : Av w v z n) (k : Fr [] w w') : Av w' v z n := by
 obtain ⟨neg, l, p, c, rfl, h1, h2, h3⟩ := h
 exact ⟨neg, l, p, c, rfl, h1.fr k, h2, h3⟩
theorem Bv.fr {w w' : World} {v : Value} {z : Int} {n : Nat} (h : Bv w v z n) (k : Fr [] w w') : Bv w' v z n := ⟨h.1.fr k, h.2⟩
theorem Bv.ar {w : World} {v : Value} {z : Int} {n : Nat} (h : Bv w v z n) : Av w v z n := by
 obtain ⟨⟨p, c, rfl, hl⟩, hn⟩ := h
 exact ⟨_, _, p, c, rfl, hl, zv_canon z, hn⟩
def Kp (w w' : World) : Prop := ∀ p c l, LR w p c l → LR w' p c l
theorem xSB {P : Program} {ops : Array Oper} {Q : Exit → Act → World → Prop} {w w0 : World} {rest : List Oper} {o : Oper} {T : List Nat} {l : List Ent} {L : List Value} {ds : List Deferred} {b : Nat} {l' : List Ent} {L' : List Value}
  (h : ∀ w', Hp T w0 w' l' → Kp w w' → wpList P ops Q rest ⟨L'.toArray, ds⟩ w')
  (hw : Region.wanted o (yielded ops L.toArray) = true := by rfl)
  (he : Hp T w0 w l → ∀ K : Act → World → Prop, (∀ w', Fr [b] w w' → Hp T w0 w' l' → (∀ p c l, LR w p c l → LR w' p c l) → K (Act.put ⟨L.toArray, ds⟩ o.dst undef) w') → o.wp P ⟨L.toArray, ds⟩ w K Q := by intro H K hK; exact c_st2 H rfl rfl rfl (h := hK))
  (hs : putL L o.dst undef = L' := by ((try simp only [nrm, putL_s, putL_n, ↓reduceIte, Nat.reduceAdd]); (try exact rfl))) (H : Hp T w0 w l) : wpList P ops Q (o :: rest) ⟨L.toArray, ds⟩ w := x_s2 (h := fun w' _ H k => h w' H k) (hw := hw) (he := he) (hs := hs) (H := H)
theorem pSB {P : Program} {lo : List Oper} {S : World → Prop} {f i : Nat} {k : Plan} {Q : Exit → Act → World → Prop} {w w0 : World} {o : Oper} {T : List Nat} {l : List Ent} {L : List Value} {ds : List Deferred} {b : Nat} {l' : List Ent} {L' : List Value}
  (h : ∀ w', Hp T w0 w' l' → Kp w w' → k.wp P lo.toArray Q S f ⟨L'.toArray, ds⟩ w') (hi : lo[i]? = some o := by rfl)
  (hw : Region.wanted o (yielded lo.toArray L.toArray) = true := by rfl)
  (he : Hp T w0 w l → ∀ K : Act → World → Prop, (∀ w', Fr [b] w w' → Hp T w0 w' l' → (∀ p c l, LR w p c l → LR w' p c l) → K (Act.put ⟨L.toArray, ds⟩ o.dst undef) w') → o.wp P ⟨L.toArray, ds⟩ w K Q := by intro H K hK; exact c_st2 H rfl rfl rfl (h := hK))
  (hs : putL L o.dst undef = L' := by ((try simp only [nrm, putL_s, putL_n, ↓reduceIte, Nat.reduceAdd]); (try exact rfl)))
  (hS : i ≠ f → ∀ w', Hp T w0 w' l' → S w' := by intro hne w' H1; first | exact absurd rfl hne | exact trivial | exact H1.sub (by repeat first | exact List.Sublist.refl _ | exact List.nil_sublist _ | apply List.Sublist.cons_cons | apply List.Sublist.cons))
  (H : Hp T w0 w l) : Plan.wp P lo.toArray Q S f (.ld i k) ⟨L.toArray, ds⟩ w := p_s2 (h := fun w' _ H k => h w' H k) (hi := hi) (hw := hw) (he := he) (hs := hs) (hS := hS) (H := H)
theorem Kp.refl (w : World) : Kp w w := fun _ _ _ h => h
theorem Kp.trans {a b c : World} (h : Kp a b) (k : Kp b c) : Kp a c := fun p q l x => k p q l (h p q l x)
theorem Fr.kp {w w' : World} (h : Fr [] w w') : Kp w w' := fun _ _ _ k => k.fr h
theorem lr {w w' : World} {p : Option Addr} {c : Nat} {l : List Nat} (h : Hid (LR w p c l)) (k : Kp w w' := by repeat first | assumption | exact Kp.refl _ | refine Kp.trans ?_ (by assumption)) : LR w' p c l := k _ _ _ h.out
theorem av {w w' : World} {v : Value} {z : Int} {n : Nat} (h : Hid (Av w v z n)) (k : Kp w w' := by repeat first | assumption | exact Kp.refl _ | refine Kp.trans ?_ (by assumption)) : Av w' v z n := by
 obtain ⟨neg, l, p, c, rfl, h1, h2, h3⟩ := h.out
 exact ⟨neg, l, p, c, rfl, k _ _ _ h1, h2, h3⟩
theorem bv {w w' : World} {v : Value} {z : Int} {n : Nat} (h : Hid (Bv w v z n)) (k : Kp w w' := by repeat first | assumption | exact Kp.refl _ | refine Kp.trans ?_ (by assumption)) : Bv w' v z n := by
 obtain ⟨⟨p, c, rfl, hl⟩, hn⟩ := h.out
 exact ⟨⟨p, c, rfl, k _ _ _ hl⟩, hn⟩
theorem Av.dl {w : World} {v : Value} {z : Int} {n : Nat} (h : Av w v z n) : dl z ≤ n := by
 obtain ⟨neg, l, p, c, rfl, h1, rfl, h3⟩ := h
 unfold Go.Proofs.YthbeeeclgbpopaaGreatDoor.dl
 rw [zv_abs]
 exact Nat.le_trans (digs_len_le h1.lim) h3
theorem Big.bv {e : Ending} {w w' : World} {z : Int} {n : Nat} (h : Big e w w' z) (hn : dl z ≤ n) : ∃ v, e = .returned v ∧ Fr [] w w' ∧ Bv w' v z n := by
 obtain ⟨v, h1, h2, h3⟩ := Big.iff.1 h
 exact ⟨v, h1, h2, h3, hn⟩
theorem dl_of {x : Nat} {z : Int} (h : z.natAbs ≤ x) : dl z ≤ (digs x).length := digs_mono h
theorem dl_lt {z : Int} : z.natAbs < 4294967296 ^ dl z := digs_lt _
theorem dl_le {z : Int} {n : Nat} (h : z.natAbs < 4294967296 ^ n) : dl z ≤ n := digs_len_of h
theorem dl_add {x y : Int} {n m : Nat} (hx : dl x ≤ n) (hy : dl y ≤ m) : dl (x + y) ≤ n + m + 1 := by
 have h := digs_two (digs_lim x.natAbs) (digs_lim y.natAbs) (x := (x + y).natAbs) (by rw [val_digs, val_digs]; omega)
 unfold dl at *
 omega
theorem dl_neg (x : Int) : dl (-x) = dl x := by unfold dl; rw [Int.natAbs_neg]
theorem dl_sub {x y : Int} {n m : Nat} (hx : dl x ≤ n) (hy : dl y ≤ m) : dl (x - y) ≤ n + m + 1 := by
 rw [Int.sub_eq_add_neg]
 exact dl_add hx (by rw [dl_neg]; exact hy)
theorem dl_mul {x y : Int} {n m : Nat} (hx : dl x ≤ n) (hy : dl y ≤ m) : dl (x * y) ≤ n + m := by
 apply dl_le
 rw [Int.natAbs_mul, Nat.pow_add]
 have h1 : x.natAbs < 4294967296 ^ n := Nat.lt_of_lt_of_le dl_lt (Nat.pow_le_pow_right (by decide) hx)
 have h2 : y.natAbs < 4294967296 ^ m := Nat.lt_of_lt_of_le dl_lt (Nat.pow_le_pow_right (by decide) hy)
 exact Nat.mul_lt_mul'' h1 h2
theorem dl_abs (x : Int) : dl (x.natAbs : Int) = dl x := by unfold dl; rw [Int.natAbs_natCast]
theorem dl_div {x y : Int} {n : Nat} (hx : dl x ≤ n) : dl (x / y) ≤ n := Nat.le_trans (dl_of (Int.natAbs_ediv_le_natAbs x y)) hx
theorem dl_mod {x y : Int} {n : Nat} (hy : dl y ≤ n) (h0 : y ≠ 0) : dl (x % y) ≤ n := by
 refine Nat.le_trans (dl_of (x := y.natAbs) ?_) hy
 have h1 := Int.emod_nonneg x h0
 have h2 := Int.emod_lt x h0
 omega
theorem add_ar {w : World} {u v : Value} {x y : Int} {n m : Nat} (h : Av w u x n) (k : Av w v y m) (hn : n ≤ 200000) (hm : m ≤ 200000) :
  Calls Tryz.prog 121 #[u, v] w fun e w' => ∃ v', e = .returned v' ∧ Fr [] w w' ∧ Bv w' v' (x + y) (n + m + 1) := by
 have hdx := h.dl
 have hdy := k.dl
 obtain ⟨na, la, p, c, rfl, h1, rfl, h3⟩ := h
 obtain ⟨nb, lb, q, d, rfl, k1, rfl, k3⟩ := k
 exact Calls.mono (add_any na nb la lb rfl rfl (by omega) (by omega) h1 k1) (fun e w' hb => hb.bv (dl_add hdx hdy))
theorem sub_ar {w : World} {u v : Value} {x y : Int} {n m : Nat} (h : Av w u x n) (k : Av w v y m) (hn : n ≤ 200000) (hm : m ≤ 200000) :
  Calls Tryz.prog 222 #[u, v] w fun e w' => ∃ v', e = .returned v' ∧ Fr [] w w' ∧ Bv w' v' (x - y) (n + m + 1) := by
 have hdx := h.dl
 have hdy := k.dl
 obtain ⟨na, la, p, c, rfl, h1, rfl, h3⟩ := h
 obtain ⟨nb, lb, q, d, rfl, k1, rfl, k3⟩ := k
 exact Calls.mono (sub_any na nb la lb rfl rfl (by omega) (by omega) h1 k1) (fun e w' hb => hb.bv (dl_sub hdx hdy))
theorem mul_ar {w : World} {u v : Value} {x y : Int} {n m : Nat} (h : Av w u x n) (k : Av w v y m) (hn : n ≤ 200000) (hm : m ≤ 200000) :
  Calls Tryz.prog 33 #[u, v] w fun e w' => ∃ v', e = .returned v' ∧ Fr [] w w' ∧ Bv w' v' (x * y) (n + m) := by
 have hdx := h.dl
 have hdy := k.dl
 obtain ⟨na, la, p, c, rfl, h1, rfl, h3⟩ := h
 obtain ⟨nb, lb, q, d, rfl, k1, rfl, k3⟩ := k
 exact Calls.mono (mul_any na nb la lb rfl rfl (by omega) (by omega) h1 k1) (fun e w' hb => hb.bv (dl_mul hdx hdy))
theorem radd_ar {w : World} {u v : Value} {x y : Int} {n m : Nat} (h : Av w u x n) (k : Av w v y m) (hn : n ≤ 200000) (hm : m ≤ 200000) :
  Calls Tryz.prog 66 #[u, v] w fun e w' => ∃ v', e = .returned v' ∧ Fr [] w w' ∧ Bv w' v' (x + y) (n + m + 1) := by
 have hdx := h.dl
 have hdy := k.dl
 obtain ⟨na, la, p, c, rfl, h1, rfl, h3⟩ := h
 obtain ⟨nb, lb, q, d, rfl, k1, rfl, k3⟩ := k
 exact Calls.mono (radd_any na nb la lb rfl rfl (by omega) (by omega) h1 k1) (fun e w' hb => hb.bv (dl_add hdx hdy))
theorem rsub_ar {w : World} {u v : Value} {x y : Int} {n m : Nat} (h : Av w u x n) (k : Av w v y m) (hn : n ≤ 200000) (hm : m ≤ 200000) :
  Calls Tryz.prog 128 #[u, v] w fun e w' => ∃ v', e = .returned v' ∧ Fr [] w w' ∧ Bv w' v' (x - y) (n + m + 1) := by
 have hdx := h.dl
 have hdy := k.dl
 obtain ⟨na, la, p, c, rfl, h1, rfl, h3⟩ := h
 obtain ⟨nb, lb, q, d, rfl, k1, rfl, k3⟩ := k
 exact Calls.mono (rsub_any na nb la lb rfl rfl (by omega) (by omega) h1 k1) (fun e w' hb => hb.bv (dl_sub hdx hdy))
theorem rmul_ar {w : World} {u v : Value} {x y : Int} {n m : Nat} (h : Av w u x n) (k : Av w v y m) (hn : n ≤ 200000) (hm : m ≤ 200000) :
  Calls Tryz.prog 76 #[u, v] w fun e w' => ∃ v', e = .returned v' ∧ Fr [] w w' ∧ Bv w' v' (x * y) (n + m) := by
 have hdx := h.dl
 have hdy := k.dl
 obtain ⟨na, la, p, c, rfl, h1, rfl, h3⟩ := h
 obtain ⟨nb, lb, q, d, rfl, k1, rfl, k3⟩ := k
 exact Calls.mono (rmul_any na nb la lb rfl rfl (by omega) (by omega) h1 k1) (fun e w' hb => hb.bv (dl_mul hdx hdy))
theorem norm_ar {w : World} {u : Value} {x : Int} {n : Nat} (h : Av w u x n) (hn : n ≤ 200000) :
  Calls Tryz.prog 156 #[u] w fun e w' => ∃ v', e = .returned v' ∧ Fr [] w w' ∧ Bv w' v' (x) n := by
 have hdx := h.dl
 obtain ⟨na, la, p, c, rfl, h1, rfl, h3⟩ := h
 refine Calls.mono (norm_any na la rfl (by omega) h1) (fun e w' hb => ?_)
 have e1 : zv na la = zv na la := rfl
 rw [e1] at hb
 exact hb.bv (hdx)
theorem rnorm_ar {w : World} {u : Value} {x : Int} {n : Nat} (h : Av w u x n) (hn : n ≤ 200000) :
  Calls Tryz.prog 129 #[u] w fun e w' => ∃ v', e = .returned v' ∧ Fr [] w w' ∧ Bv w' v' (x) n := by
 have hdx := h.dl
 obtain ⟨na, la, p, c, rfl, h1, rfl, h3⟩ := h
 refine Calls.mono (rnorm_any na la rfl (by omega) h1) (fun e w' hb => ?_)
 have e1 : zv na la = zv na la := rfl
 rw [e1] at hb
 exact hb.bv (hdx)
theorem neg_ar {w : World} {u : Value} {x : Int} {n : Nat} (h : Av w u x n) (hn : n ≤ 200000) :
  Calls Tryz.prog 43 #[u] w fun e w' => ∃ v', e = .returned v' ∧ Fr [] w w' ∧ Bv w' v' (-x) n := by
 have hdx := h.dl
 obtain ⟨na, la, p, c, rfl, h1, rfl, h3⟩ := h
 refine Calls.mono (neg_any na la rfl (by omega) h1) (fun e w' hb => ?_)
 have e1 : zv (!na) la = -(zv na la) := zv_not na la
 rw [e1] at hb
 exact hb.bv ((by rw [dl_neg]; exact hdx))
theorem rneg_ar {w : World} {u : Value} {x : Int} {n : Nat} (h : Av w u x n) (hn : n ≤ 200000) :
  Calls Tryz.prog 173 #[u] w fun e w' => ∃ v', e = .returned v' ∧ Fr [] w w' ∧ Bv w' v' (-x) n := by
 have hdx := h.dl
 obtain ⟨na, la, p, c, rfl, h1, rfl, h3⟩ := h
 refine Calls.mono (rneg_any na la rfl (by omega) h1) (fun e w' hb => ?_)
 have e1 : zv (!na) la = -(zv na la) := zv_not na la
 rw [e1] at hb
 exact hb.bv ((by rw [dl_neg]; exact hdx))
theorem abs_ar {w : World} {u : Value} {x : Int} {n : Nat} (h : Av w u x n) (hn : n ≤ 200000) :
  Calls Tryz.prog 93 #[u] w fun e w' => ∃ v', e = .returned v' ∧ Fr [] w w' ∧ Bv w' v' ((x.natAbs : Int)) n := by
 have hdx := h.dl
 obtain ⟨na, la, p, c, rfl, h1, rfl, h3⟩ := h
 refine Calls.mono (abs_any na la rfl (by omega) h1) (fun e w' hb => ?_)
 have e1 : zv false la = ((zv na la).natAbs : Int) := (by rw [zv_abs]; rfl)
 rw [e1] at hb
 exact hb.bv ((by rw [dl_abs]; exact hdx))
theorem rabs_ar {w : World} {u : Value} {x : Int} {n : Nat} (h : Av w u x n) (hn : n ≤ 200000) :
  Calls Tryz.prog 132 #[u] w fun e w' => ∃ v', e = .returned v' ∧ Fr [] w w' ∧ Bv w' v' ((x.natAbs : Int)) n := by
 have hdx := h.dl
 obtain ⟨na, la, p, c, rfl, h1, rfl, h3⟩ := h
 refine Calls.mono (rabs_any na la rfl (by omega) h1) (fun e w' hb => ?_)
 have e1 : zv false la = ((zv na la).natAbs : Int) := (by rw [zv_abs]; rfl)
 rw [e1] at hb
 exact hb.bv ((by rw [dl_abs]; exact hdx))
theorem val_ne_of {n : Bool} {l : List Nat} (h : zv n l ≠ 0) : val l ≠ 0 := fun e => h (by unfold zv; rw [e]; cases n <;> rfl)
theorem divMod_ar {w : World} {u v : Value} {x y : Int} {n m : Nat} (h : Av w u x n) (k : Av w v y m) (hn : n ≤ 200000) (hm : m ≤ 200000) (h0 : y ≠ 0) :
  Calls Tryz.prog 72 #[u, v] w fun e w' => ∃ v1 v2, e = .returned (.tuple #[v1, v2, .int .i64 0]) ∧ Fr [] w w' ∧ Bv w' v1 (x / y) n ∧ Bv w' v2 (x % y) m := by
 have hdx := h.dl
 have hdy := k.dl
 obtain ⟨na, la, p, c, rfl, h1, rfl, h3⟩ := h
 obtain ⟨nb, lb, q, d, rfl, k1, rfl, k3⟩ := k
 refine Calls.mono (divMod_any na nb la lb rfl rfl (by omega) (by omega) h1 k1 (val_ne_of h0)) ?_
 rintro e w' ⟨v1, v2, rfl, hF, b1, b2⟩
 exact ⟨v1, v2, rfl, hF, ⟨b1, dl_div hdx⟩, ⟨b2, dl_mod hdy h0⟩⟩
theorem sign_ar {w : World} {u : Value} {x : Int} {n : Nat} (h : Av w u x n) (hn : n ≤ 200000) :
  Calls Tryz.prog 122 #[u] w fun e w' => e = .returned (.int .i64 (Int.sign x)) ∧ Fr [] w w' := by
 obtain ⟨na, la, p, c, rfl, h1, rfl, h3⟩ := h
 exact sign_any na la rfl (by omega) h1
theorem rsign_ar {w : World} {u : Value} {x : Int} {n : Nat} (h : Av w u x n) (hn : n ≤ 200000) :
  Calls Tryz.prog 75 #[u] w fun e w' => e = .returned (.int .i64 (Int.sign x)) ∧ Fr [] w w' := by
 obtain ⟨na, la, p, c, rfl, h1, rfl, h3⟩ := h
 exact rsign_any na la rfl (by omega) h1
theorem cmp_ar {w : World} {u v : Value} {x y : Int} {n m : Nat} (h : Av w u x n) (k : Av w v y m) (hn : n ≤ 200000) (hm : m ≤ 200000) :
  Calls Tryz.prog 90 #[u, v] w fun e w' => e = .returned (.int .i64 (cmpZ x y)) ∧ Fr [] w w' := by
 obtain ⟨na, la, p, c, rfl, h1, rfl, h3⟩ := h
 obtain ⟨nb, lb, q, d, rfl, k1, rfl, k3⟩ := k
 exact cmp_any na nb la lb rfl rfl (by omega) (by omega) h1 k1
theorem rcmp_ar {w : World} {u v : Value} {x y : Int} {n m : Nat} (h : Av w u x n) (k : Av w v y m) (hn : n ≤ 200000) (hm : m ≤ 200000) :
  Calls Tryz.prog 62 #[u, v] w fun e w' => e = .returned (.int .i64 (cmpZ x y)) ∧ Fr [] w w' := by
 obtain ⟨na, la, p, c, rfl, h1, rfl, h3⟩ := h
 obtain ⟨nb, lb, q, d, rfl, k1, rfl, k3⟩ := k
 exact rcmp_any na nb la lb rfl rfl (by omega) (by omega) h1 k1
theorem fromInt_ar (w : World) (z : Int) (hz : inr .i64 z) :
  Calls Tryz.prog 86 #[.int .i64 z] w fun e w' => ∃ v', e = .returned v' ∧ Fr [] w w' ∧ Bv w' v' z 2 := by
 refine Calls.mono (fromInt_any w z hz) (fun e w' hb => hb.bv (dl_le ?_))
 have h1 : -9223372036854775808 ≤ z ∧ z ≤ 9223372036854775807 := hz
 have h3 : (4294967296 : Nat) ^ 2 = 18446744073709551616 := by decide
 omega
theorem int_ar {w : World} {u : Value} {x : Int} {n : Nat} (h : Av w u x n) (hn : n ≤ 200000) (hx : -9223372036854775808 ≤ x ∧ x ≤ 9223372036854775807) :
  Calls Tryz.prog 163 #[u] w fun e w' => e = .returned (.tuple #[.int .i64 x, .bool true]) ∧ Fr [] w w' := by
 obtain ⟨na, la, p, c, rfl, h1, rfl, h3⟩ := h
 have hi := int_any na la rfl (by omega) h1 (.inr hx)
 rw [intV, if_pos hx] at hi
 exact hi
theorem format_ar {w : World} {u : Value} {x : Int} {n : Nat} (h : Av w u x n) (hn : n ≤ 10000) (ht : Lib.TabIs Tryz.prog w "internal/strconv.uint64pow10" .u64 Lib.pow10Tab) :
  Calls Tryz.prog 52 #[u] w fun e w' => e = .returned (strV (fmt x)) ∧ Fr [] w w' := by
 obtain ⟨na, la, p, c, rfl, h1, rfl, h3⟩ := h
 exact format_any na la rfl (by omega) h1 ht
end Go.Proofs.YthbeeeclgbpopaaGreatDoor
namespace Go.Proofs.YthbeeeclgbpopaaGreatDoor
open Go.RowKit
set_option linter.unusedSimpArgs false
set_option linter.unusedVariables false
set_option maxHeartbeats 4000000
set_option maxRecDepth 100000
theorem Bv.form {w : World} {v : Value} {z : Int} {n : Nat} (h : Bv w v z n) : ∃ b p m c, v = .agg #[.bool b, .slice p m c] := by
 obtain ⟨⟨p, c, rfl, _⟩, _⟩ := h
 exact ⟨_, _, _, _, rfl⟩
theorem Av.form {w : World} {v : Value} {z : Int} {n : Nat} (h : Av w v z n) : ∃ b p m c, v = .agg #[.bool b, .slice p m c] := by
 obtain ⟨_, _, p, c, rfl, _⟩ := h
 exact ⟨_, _, _, _, rfl⟩
end Go.Proofs.YthbeeeclgbpopaaGreatDoor
namespace Go.Proofs.YthbeeeclgbpopaaGreatDoor
open Go.ChangeShapes Go.WideShapes Go.RowKit
set_option linter.unusedSimpArgs false
set_option linter.unusedVariables false
theorem own0 : ownKnob Tryz.prog.godebug = none := by kernel_rfl
def vals (k : IntKind) (zs : List Int) : Array Value := (zs.map fun z => Value.int k z).toArray
def lits : DataW Unit → List Int
 | .agg l => l.map fun | .lit (.int _ z) => z | _ => 0
 | _ => []
theorem wp_planF {P : Program} {ops : Array Oper} {Q : Exit → Act → World → Prop} {id : Nat} {a : Act} {w w0 : World} {T : List Nat} {l lS : List Ent} (H : Hp T w0 w l) (hs : List.Sublist lS l) (f : Nat) (p : Plan) (hm : P.follows .mixedOrders = true) (hns : Region.noSelect ops = true) (hc : p.chk ops f ops.size (Array.replicate ops.size false) = true)
  (hQ : ∀ c a d v w, Q (.panic c) (Act.put a d v) w → Q (.panic c) a w)
  (h : ∀ w', Fr [] w w' → Hp T w0 w' l → p.wp P ops Q (fun w => Hp T w0 w lS) f a w') : (Code.region id ops true).wp P Q a w :=
 wp_region_any hm (wpJ_any _ _ _ _ (Plan.sound hns hQ p _ _ _ _ _ _ (fun k o ho hk => by simp [Array.getElem?_replicate] at hk; split at hk <;> simp at hk) hc (.inl (H.drew.sub hs)) (h _ (Fr.drew _ _) H.drew)))
theorem w_pF {P : Program} {ops : Array Oper} {Q : Exit → Act → World → Prop} {id : Nat} {a : Act} {w w0 : World} {T : List Nat} {l lS : List Ent} (f : Nat) (p : Plan) (h : ∀ w', Fr [] w w' → Hp T w0 w' l → p.wp P ops Q (fun w => Hp T w0 w lS) f a w') (hs : List.Sublist lS l := by exact List.Sublist.refl _) (hm : P.follows .mixedOrders = true := by rfl) (hns : Region.noSelect ops = true := by kernel_rfl) (hc : p.chk ops f ops.size (Array.replicate ops.size false) = true := by kernel_rfl)
  (hQ : ∀ c a d v w, Q (.panic c) (Act.put a d v) w → Q (.panic c) a w := by intro c a d v w h; cases d <;> exact h) (H : Hp T w0 w l) : (Code.region id ops true).wp P Q a w := wp_planF H hs f p hm hns hc hQ h
theorem sign_nonneg' {x : Int} (hx : 0 ≤ x) : 0 ≤ Int.sign x := by
 obtain ⟨n, rfl⟩ := Int.eq_ofNat_of_zero_le hx
 cases n with
 | zero => exact Int.le_refl _
 | succ n => exact (by decide : (0 : Int) ≤ 1)
theorem cmp_below {w : World} {u v : Value} {x y : Int} {n m : Nat} (h : Av w u x n) (k : Av w v y m) (hn : n ≤ 200000) (hm : m ≤ 200000) (hx : x < y) :
  Calls Tryz.prog 90 #[u, v] w fun e w' => ∃ s : Int, e = .returned (.int .i64 s) ∧ s < 0 ∧ Fr [] w w' :=
 Calls.mono (cmp_ar h k hn hm) (fun e w' hb => ⟨_, hb.1, by rw [cmpZ_lt hx]; decide, hb.2⟩)
end Go.Proofs.YthbeeeclgbpopaaGreatDoor
namespace Go.Proofs.YthbeeeclgbpopaaGreatDoor
open Go.RowKit
set_option linter.unusedSimpArgs false
set_option linter.unusedVariables false
theorem sign_is0 {w : World} {u : Value} {x : Int} {n : Nat} (h : Av w u x n) (hn : n ≤ 200000) (hx : x = 0) :
  Calls Tryz.prog 122 #[u] w fun e w' => e = .returned (.int .i64 0) ∧ Fr [] w w' := by
 subst hx
 exact sign_ar h hn
theorem bv_zero (w : World) : Bv w (.agg #[.bool false, .slice none 0 0]) 0 0 := ⟨BigV.zero w, by simp [dl, digs_zero]⟩
theorem Bv.mono {w : World} {v : Value} {z : Int} {n m : Nat} (h : Bv w v z n) (hm : n ≤ m) : Bv w v z m := ⟨h.1, Nat.le_trans h.2 hm⟩
end Go.Proofs.YthbeeeclgbpopaaGreatDoor
