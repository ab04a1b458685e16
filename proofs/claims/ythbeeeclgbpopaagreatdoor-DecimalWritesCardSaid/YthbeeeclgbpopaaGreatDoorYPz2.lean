import Derived.Test.YthbeeeclgbpopaaGreatDoorYIw34
import Derived.Shelf.Strconv.Atoi
import Derived.Shelf.GgClosure.StringsIndexFunc
import Derived.Ground.GgwProg
import Derived.Shelf.GgClosure.StringsIndexFuncTop
import Derived.Shelf.GgClosure.StringsRunes
import Derived.Shelf.Strings.Prefix
import Derived.Test.YthbeeeclgbpopaaGreatDoorYIw32
import Derived.Lib.AtoiErrMem
import Derived.Deep.LoopGhost
namespace Go.Proofs
open Go.Shelf
set_option linter.unusedSimpArgs false
set_option linter.unusedVariables false
def Tryz.lays172_ren : Go.Shelf.Ren := ⟨fun | 172 => 80 | 244 => 152 | 245 => 153 | 247 => 189 | 279 => 190 | 280 => 191 | 281 => 192 | 282 => 193 | 287 => 213 | 316 => 214 | 171 => 20 | 205 => 215 | 321 => 226 | 322 => 227 | 243 => 55 | 246 => 124 | 283 => 175 | 284 => 176 | 285 => 177 | 286 => 178 | 129 => 206 | 317 => 205 | 318 => 207 | 319 => 208 | 320 => 209 | 337 => 136 | 338 => 225 | n => n, fun | 9 => 9 | 3 => 3 | 75 => 95 | 76 => 96 | 4 => 4 | 5 => 5 | 167 => 183 | 37 => 81 | 0 => 0 | 85 => 184 | 2 => 2 | 168 => 186 | 53 => 24 | 175 => 203 | 46 => 75 | 210 => 207 | 127 => 181 | 145 => 219 | 143 => 217 | 21 => 21 | 171 => 167 | 173 => 170 | 212 => 196 | 51 => 99 | 20 => 20 | 213 => 197 | 232 => 173 | 233 => 220 | 80 => 152 | n => n, fun | 15 => 2 | 16 => 3 | 17 => 1 | 18 => 0 | 19 => 7 | n => n⟩
theorem Tryz.lays172 : Go.Proofs.Lays.n172 Tryz.prog Tryz.lays172_ren := {
 mixed := by kernel_rfl
 f129 := Tryz.func206.trans (congrArg some (by kernel_rfl))
 f171 := Tryz.func20.trans (congrArg some (by kernel_rfl))
 f172 := Tryz.func80.trans (congrArg some (by kernel_rfl))
 f205 := Tryz.func215.trans (congrArg some (by kernel_rfl))
 f243 := Tryz.func55.trans (congrArg some (by kernel_rfl))
 f244 := Tryz.func152.trans (congrArg some (by kernel_rfl))
 f245 := Tryz.func153.trans (congrArg some (by kernel_rfl))
 f246 := Tryz.func124.trans (congrArg some (by kernel_rfl))
 f247 := Tryz.func189.trans (congrArg some (by kernel_rfl))
 f279 := Tryz.func190.trans (congrArg some (by kernel_rfl))
 f280 := Tryz.func191.trans (congrArg some (by kernel_rfl))
 f281 := Tryz.func192.trans (congrArg some (by kernel_rfl))
 f282 := Tryz.func193.trans (congrArg some (by kernel_rfl))
 f283 := Tryz.func175.trans (congrArg some (by kernel_rfl))
 f284 := Tryz.func176.trans (congrArg some (by kernel_rfl))
 f285 := Tryz.func177.trans (congrArg some (by kernel_rfl))
 f286 := Tryz.func178.trans (congrArg some (by kernel_rfl))
 f287 := Tryz.func213.trans (congrArg some (by kernel_rfl))
 f316 := Tryz.func214.trans (congrArg some (by kernel_rfl))
 f317 := Tryz.func205.trans (congrArg some (by kernel_rfl))
 f318 := Tryz.func207.trans (congrArg some (by kernel_rfl))
 f319 := Tryz.func208.trans (congrArg some (by kernel_rfl))
 f320 := Tryz.func209.trans (congrArg some (by kernel_rfl))
 f321 := Tryz.func226.trans (congrArg some (by kernel_rfl))
 f322 := Tryz.func227.trans (congrArg some (by kernel_rfl))
 f337 := Tryz.func136.trans (congrArg some (by kernel_rfl))
 f338 := Tryz.func225.trans (congrArg some (by kernel_rfl))
 t0 := Tryz.underlying0
 a0 := Tryz.isAgg0
 z0 := Tryz.sizeOf0
 v0 := Tryz.zeroValue0
 t2 := Tryz.underlying2
 a2 := Tryz.isAgg2
 z2 := Tryz.sizeOf2
 v2 := Tryz.zeroValue2
 t3 := Tryz.underlying3
 a3 := Tryz.isAgg3
 z3 := Tryz.sizeOf3
 v3 := Tryz.zeroValue3
 t4 := Tryz.underlying4
 a4 := Tryz.isAgg4
 z4 := Tryz.sizeOf4
 v4 := Tryz.zeroValue4
 t5 := Tryz.underlying5
 a5 := Tryz.isAgg5
 z5 := Tryz.sizeOf5
 v5 := Tryz.zeroValue5
 t9 := Tryz.underlying9
 a9 := Tryz.isAgg9
 z9 := Tryz.sizeOf9
 v9 := Tryz.zeroValue9
 t20 := Tryz.underlying20
 a20 := Tryz.isAgg20
 z20 := Tryz.sizeOf20
 v20 := Tryz.zeroValue20
 t21 := Tryz.underlying21
 a21 := Tryz.isAgg21
 z21 := Tryz.sizeOf21
 v21 := Tryz.zeroValue21
 t37 := Tryz.underlying81
 a37 := Tryz.isAgg81
 z37 := Tryz.sizeOf81
 v37 := Tryz.zeroValue81
 t46 := Tryz.underlying75
 a46 := Tryz.isAgg75
 z46 := Tryz.sizeOf75
 v46 := Tryz.zeroValue75
 t51 := Tryz.underlying99
 a51 := Tryz.isAgg99
 z51 := Tryz.sizeOf99
 v51 := Tryz.zeroValue99
 t53 := Tryz.underlying24
 a53 := Tryz.isAgg24
 z53 := Tryz.sizeOf24
 v53 := Tryz.zeroValue24
 t75 := Tryz.underlying95
 a75 := Tryz.isAgg95
 z75 := Tryz.sizeOf95
 v75 := Tryz.zeroValue95
 t76 := Tryz.underlying96
 a76 := Tryz.isAgg96
 z76 := Tryz.sizeOf96
 v76 := Tryz.zeroValue96
 t85 := Tryz.underlying184
 a85 := Tryz.isAgg184
 z85 := Tryz.sizeOf184
 v85 := Tryz.zeroValue184
 t127 := Tryz.underlying181
 a127 := Tryz.isAgg181
 z127 := Tryz.sizeOf181
 v127 := Tryz.zeroValue181
 t143 := Tryz.underlying217
 a143 := Tryz.isAgg217
 z143 := Tryz.sizeOf217
 v143 := Tryz.zeroValue217
 t145 := Tryz.underlying219
 a145 := Tryz.isAgg219
 z145 := Tryz.sizeOf219
 v145 := Tryz.zeroValue219
 t167 := Tryz.underlying183
 a167 := Tryz.isAgg183
 z167 := Tryz.sizeOf183
 v167 := Tryz.zeroValue183
 t168 := Tryz.underlying186
 a168 := Tryz.isAgg186
 z168 := Tryz.sizeOf186
 v168 := Tryz.zeroValue186
 t171 := Tryz.underlying167
 a171 := Tryz.isAgg167
 z171 := Tryz.sizeOf167
 v171 := Tryz.zeroValue167
 t173 := Tryz.underlying170
 a173 := Tryz.isAgg170
 z173 := Tryz.sizeOf170
 v173 := Tryz.zeroValue170
 t175 := Tryz.underlying203
 a175 := Tryz.isAgg203
 z175 := Tryz.sizeOf203
 v175 := Tryz.zeroValue203
 t210 := Tryz.underlying207
 a210 := Tryz.isAgg207
 z210 := Tryz.sizeOf207
 v210 := Tryz.zeroValue207
 t212 := Tryz.underlying196
 a212 := Tryz.isAgg196
 z212 := Tryz.sizeOf196
 v212 := Tryz.zeroValue196
 t213 := Tryz.underlying197
 a213 := Tryz.isAgg197
 z213 := Tryz.sizeOf197
 t232 := Tryz.underlying173
 a232 := Tryz.isAgg173
 z232 := Tryz.sizeOf173
 v232 := Tryz.zeroValue173
 t233 := Tryz.underlying220
 a233 := Tryz.isAgg220
 z233 := Tryz.sizeOf220
 v233 := Tryz.zeroValue220
 g15 := by kernel_rfl
 g16 := by kernel_rfl
 g17 := by kernel_rfl
 g18 := by kernel_rfl
 g19 := by kernel_rfl }
open Go.RowKit in
theorem Tryz.strconv_Atoi (s : ByteArray) (n : Int) (hl : s.size ≤ 18) (h : Lib.atoi s.data.toList = some n) (w : World) :
  Calls Tryz.prog 80 #[.string s] w fun e w' => e = .returned (.tuple #[.int .i64 n, .nilIface]) ∧ ∃ t, w' = Lib.bytesWorld w 5 t := Any.strconv_Atoi Tryz.lays172 s n hl h w
def Tryz.laysGw17_ren : Go.Shelf.Ren := ⟨fun | 17 => 78 | 15 => 151 | 20 => 188 | n => n, fun | 9 => 9 | 23 => 93 | 4 => 4 | 3 => 3 | 0 => 0 | 21 => 21 | n => n, fun | n => n⟩
theorem Tryz.laysGw17 : Go.Proofs.LaysGw.n17 Tryz.prog Tryz.laysGw17_ren := {
 mixed := by kernel_rfl
 f15 := Tryz.func151.trans (congrArg some (by kernel_rfl))
 f17 := Tryz.func78.trans (congrArg some (by kernel_rfl))
 f20 := Tryz.func188.trans (congrArg some (by kernel_rfl))
 t0 := Tryz.underlying0
 a0 := Tryz.isAgg0
 z0 := Tryz.sizeOf0
 v0 := Tryz.zeroValue0
 i0 := by kernel_rfl
 t3 := Tryz.underlying3
 a3 := Tryz.isAgg3
 z3 := Tryz.sizeOf3
 v3 := Tryz.zeroValue3
 i3 := by kernel_rfl
 t4 := Tryz.underlying4
 a4 := Tryz.isAgg4
 z4 := Tryz.sizeOf4
 v4 := Tryz.zeroValue4
 i4 := by kernel_rfl
 t9 := Tryz.underlying9
 a9 := Tryz.isAgg9
 z9 := Tryz.sizeOf9
 v9 := Tryz.zeroValue9
 i9 := by kernel_rfl
 t21 := Tryz.underlying21
 a21 := Tryz.isAgg21
 z21 := Tryz.sizeOf21
 v21 := Tryz.zeroValue21
 i21 := by kernel_rfl
 t23 := Tryz.underlying93
 a23 := Tryz.isAgg93
 z23 := Tryz.sizeOf93
 v23 := Tryz.zeroValue93
 i23 := by kernel_rfl }
open Go.RowKit Go.Lib in
theorem Tryz.strings_ContainsFunc_runes (g : Nat) (lb : Array Value) (eg : ∀ args w, (callFunc g args).run Tryz.prog w = .ok (.enter g args) w) (p : Nat → Bool) (s : ByteArray) (w : World) (hp : PredAtRunes Tryz.prog g lb p w) :
  Calls Tryz.prog 78 #[.string s, .func (.func g) #[] lb] w fun e w' => e = .returned (.bool (decide (0 ≤ Lib.idxFunc p true s))) ∧ Below w.heap.size w w' := Any.strings_ContainsFunc_runes Tryz.laysGw17 g lb eg p s w hp
def Tryz.lays99_ren : Go.Shelf.Ren := ⟨fun | 99 => 77 | 206 => 150 | n => n, fun | 9 => 9 | 4 => 4 | 3 => 3 | n => n, fun | n => n⟩
theorem Tryz.lays99 : Go.Proofs.Lays.n99 Tryz.prog Tryz.lays99_ren := {
 mixed := by kernel_rfl
 f99 := Tryz.func77.trans (congrArg some (by kernel_rfl))
 f206 := Tryz.func150.trans (congrArg some (by kernel_rfl))
 t3 := Tryz.underlying3
 a3 := Tryz.isAgg3
 z3 := Tryz.sizeOf3
 v3 := Tryz.zeroValue3
 t4 := Tryz.underlying4
 a4 := Tryz.isAgg4
 z4 := Tryz.sizeOf4
 v4 := Tryz.zeroValue4
 t9 := Tryz.underlying9
 a9 := Tryz.isAgg9
 z9 := Tryz.sizeOf9
 v9 := Tryz.zeroValue9 }
open Go.RowKit Go.Lib in
theorem Tryz.strings_HasPrefix (s p : ByteArray) (w : World) :
  Calls Tryz.prog 77 #[.string s, .string p] w fun e w' => e = .returned (.bool (Lib.hasPrefix s.data.toList p.data.toList)) ∧ w' = w := Any.strings_HasPrefix Tryz.lays99 s p w
end Go.Proofs
namespace Go.Proofs.YthbeeeclgbpopaaGreatDoor
open Go.RowKit
set_option linter.unusedSimpArgs false
set_option linter.unusedVariables false
def dig (b : UInt8) : Bool := 48 ≤ b.toNat && b.toNat ≤ 57
def notDig (x : Nat) : Bool := decide (x < 48) || decide (57 < x)
def numS (a : Nat) (b : UInt8) : Nat := a * 10 + (b.toNat - 48)
def numF (a : Nat) (l : List UInt8) : Nat := l.foldl numS a
def num (l : List UInt8) : Nat := numF 0 l
theorem numF_cons (a : Nat) (b : UInt8) (r : List UInt8) : numF a (b :: r) = numF (numS a b) r := by unfold numF; rw [List.foldl_cons]
theorem numF_eq (l : List UInt8) : ∀ a : Nat, numF a l = a * 10 ^ l.length + numF 0 l := by
 induction l with
 | nil =>
  intro a
  show a = a * 1 + 0
  omega
 | cons b r ih =>
  intro a
  have h1 := ih (numS a b)
  have h2 := ih (numS 0 b)
  have e1 : numS a b = a * 10 + numS 0 b := by unfold numS; omega
  have e2 : a * 10 * 10 ^ r.length = a * 10 ^ (r.length + 1) := by rw [Nat.pow_succ, Nat.mul_assoc, Nat.mul_comm 10]
  rw [e1, Nat.add_mul, e2] at h1
  rw [numF_cons, numF_cons, List.length_cons, e1, h1, Nat.add_assoc, h2]
theorem numF_app (l m : List UInt8) (a : Nat) : numF a (l ++ m) = numF (numF a l) m := List.foldl_append
theorem num_app (l m : List UInt8) : num (l ++ m) = num l * 10 ^ m.length + num m := by
 unfold num
 rw [numF_app, numF_eq m]
theorem dig_le {b : UInt8} (h : dig b = true) : 48 ≤ b.toNat ∧ b.toNat ≤ 57 := by unfold dig at h; simpa using h
theorem num_one (b : UInt8) : num [b] = b.toNat - 48 := by
 show numS 0 b = _
 unfold numS
 omega
theorem num_lt : ∀ (l : List UInt8), l.all dig = true → num l < 10 ^ l.length
 | [], _ => Nat.one_pos
 | b :: r, h => by
  rw [List.all_cons, Bool.and_eq_true] at h
  have h1 := dig_le h.1
  have h2 := num_lt r h.2
  rw [show b :: r = [b] ++ r from rfl, num_app, num_one, List.length_append, List.length_cons, List.length_nil, Nat.pow_add, Nat.zero_add, Nat.pow_one]
  have h3 : (b.toNat - 48) * 10 ^ r.length ≤ 9 * 10 ^ r.length := Nat.mul_le_mul_right _ (by omega)
  omega
theorem decFrom_num : ∀ (l : List UInt8) (a : Nat), l.all dig = true → Lib.decFrom a l = some (numF a l)
 | [], a, _ => rfl
 | b :: r, a, h => by
  rw [List.all_cons, Bool.and_eq_true] at h
  have h1 := dig_le h.1
  rw [Lib.decFrom, Lib.digitVal, if_pos h1]
  exact decFrom_num r _ h.2
theorem atoi_num {l : List UInt8} (h : l.all dig = true) (hn : l ≠ []) : Lib.atoi l = some (num l : Int) := by
 cases l with
 | nil => exact absurd rfl hn
 | cons b r =>
  have h0 := h
  rw [List.all_cons, Bool.and_eq_true] at h
  have h1 := dig_le h.1
  have e1 : (b == 45) = false := by
   rw [beq_eq_false_iff_ne]
   intro e
   subst e
   have h2 := h1.1
   simp at h2
  have e2 : (b == 43) = false := by
   rw [beq_eq_false_iff_ne]
   intro e
   subst e
   have h2 := h1.1
   simp at h2
  rw [Lib.atoi, e1, e2]
  simp only [Bool.false_eq_true, if_false, Lib.decNat, List.isEmpty_cons, decFrom_num _ 0 h0, Option.map_some]
  rfl
theorem decode_low {s : ByteArray} {i : Nat} (h : (s.get! i).toNat < 128) : Utf8.decode s i = ((s.get! i).toNat, 1) := by
 unfold Utf8.decode
 simp only [Nat.add_zero]
 rw [if_pos h]
theorem decode_high {s : ByteArray} {i : Nat} (h : ¬ (s.get! i).toNat < 128) : 57 < (Utf8.decode s i).1 := by
 unfold Utf8.decode
 simp only [Nat.add_zero]
 rw [if_neg h]
 have hr : 57 < Utf8.runeError := by decide
 repeat' split
 all_goals first | exact hr | (simp only; omega) | skip
 all_goals
  rename_i hc
  simp only [Bool.and_eq_true, decide_eq_true_eq, ge_iff_le] at hc
  simp only
  omega
theorem get_list (s : List UInt8) (i : Nat) (b : UInt8) (h : s[i]? = some b) : (ByteArray.mk s.toArray).get! i = b := by
 obtain ⟨h1, e⟩ := List.getElem?_eq_some_iff.1 h
 show (s.toArray)[i]! = b
 simp [h1, e]
theorem idx_from (s : List UInt8) : ∀ (f pos : Nat), s.length ≤ pos + f → decide (0 ≤ Lib.idxFuncFrom notDig true ⟨s.toArray⟩ f pos) = !((s.drop pos).all dig)
 | 0, pos, hf => by
  rw [List.drop_eq_nil_of_le (by omega)]
  rfl
 | f + 1, pos, hf => by
  have hsz : (ByteArray.mk s.toArray).size = s.length := by simp [ByteArray.size]
  rw [Lib.idxFuncFrom]
  by_cases hp : pos < s.length
  ·rw [if_pos (by rw [hsz]; exact hp)]
   have hg := get_list s pos s[pos] (List.getElem?_eq_getElem hp)
   rw [List.drop_eq_getElem_cons hp, List.all_cons]
   by_cases hd : dig s[pos] = true
   ·have h1 := dig_le hd
    have hl : ((ByteArray.mk s.toArray).get! pos).toNat < 128 := by rw [hg]; omega
    rw [decode_low hl, hg, hd, Bool.true_and]
    have hn : notDig s[pos].toNat = false := by unfold notDig; simp; omega
    rw [hn, if_neg (by decide)]
    exact idx_from s f (pos + 1) (by omega)
   ·have hn : notDig (Utf8.decode ⟨s.toArray⟩ pos).1 = true := by
     by_cases hl : ((ByteArray.mk s.toArray).get! pos).toNat < 128
     ·rw [decode_low hl, hg]
      unfold dig at hd
      unfold notDig
      simp at hd ⊢
      omega
     ·have := decode_high hl
      unfold notDig
      simp
      omega
    rw [hn, if_pos rfl]
    have hf : dig s[pos] = false := by simpa using hd
    rw [hf]
    simp
  ·rw [if_neg (by rw [hsz]; exact hp), List.drop_eq_nil_of_le (by omega)]
   rfl
theorem idx_digits (s : List UInt8) : decide (0 ≤ Lib.idxFunc notDig true ⟨s.toArray⟩) = !(s.all dig) := by
 have h := idx_from s s.length 0 (by omega)
 rw [List.drop_zero] at h
 have hsz : (ByteArray.mk s.toArray).size = s.length := by simp [ByteArray.size]
 unfold Lib.idxFunc
 rw [hsz]
 exact h
def sgn (s : List UInt8) : Bool := s.head? == some 45
def body (s : List UInt8) : List UInt8 := if s.head? = some 45 ∨ s.head? = some 43 then s.tail else s
def pz (s : List UInt8) : Int × Int :=
 if 1024 < s.length then (0, 2)
 else if body s = [] ∨ (body s).all dig = false then (0, 7)
 else (sg (sgn s) (num (body s)), 0)
theorem dec_digits (n : Nat) : (dec n).all dig = true ∧ num (dec n) = n ∧ dec n ≠ [] := by
 induction n using Nat.strongRecOn with
 | _ n ih =>
  have hb : ∀ d, d < 10 → (UInt8.ofNat (48 + d)).toNat = 48 + d := fun d hd => by
   rw [UInt8.toNat_ofNat']
   exact Nat.mod_eq_of_lt (by omega)
  by_cases h : n < 10
  ·rw [dec_small h]
   refine ⟨?_, ?_, by simp⟩
   ·simp [dig, hb n h]; omega
   ·rw [num_one, hb n h]; omega
  ·obtain ⟨h1, h2, h3⟩ := ih (n / 10) (by omega)
   have hm : n % 10 < 10 := Nat.mod_lt _ (by decide)
   rw [dec_ten (by omega)]
   refine ⟨?_, ?_, by simp⟩
   ·rw [List.all_append, h1]
    simp [dig, hb _ hm]; omega
   ·rw [num_app, h2, num_one, hb _ hm]
    simp
    omega
end Go.Proofs.YthbeeeclgbpopaaGreatDoor
namespace Go.Proofs.YthbeeeclgbpopaaGreatDoor
open Go.RowKit
set_option linter.unusedSimpArgs false
set_option linter.unusedVariables false
set_option maxHeartbeats 16000000
set_option maxRecDepth 100000
section
variable {P : Program} {a : Act} {w : World} {o : Oper}
theorem ba_extract (s : List UInt8) (i j : Nat) : (ByteArray.mk s.toArray).extract i j = ⟨((s.take j).drop i).toArray⟩ := by
 apply ByteArray.ext
 simp [ByteArray.data_extract, List.extract_eq_take_drop, List.drop_take]
theorem ba_size (s : List UInt8) : (ByteArray.mk s.toArray).size = s.length := by simp [ByteArray.size]
theorem ev_strLen {x : Operand} {t : TypeId} (ho : o.op = .call { callee := .builtin .len, args := #[x], argTypes := #[t] }) {s : List UInt8} (hx : a.eval x = strV s) [h : Sy P t] : (execOp a.eval o).run P w = .ok (.value (.int .i64 s.length)) w := by
 have := c_lens (P := P) (w := w) ho (s := ⟨s.toArray⟩) hx
 rw [ba_size] at this
 exact this
theorem ev_strHead {t : TypeId} {x y : Operand} (ho : o.op = .slice t x none (some y) none) {s r : List UInt8} (hx : a.eval x = strV s) {k : IntKind} {i : Int} (hy : a.eval y = .int k i) [h : Sy P t] (hr : Hid (s.take i.toNat = r)) (h0 : 0 ≤ i := by omega) (h1 : i ≤ s.length := by omega) : (execOp a.eval o).run P w = .ok (.value (strV r)) w := by
 rw [← hr.out]
 unfold strV at hx
 have e := run_slice_string_h (P := P) w t ⟨s.toArray⟩ h.h k i h0 (by rw [ba_size]; exact h1)
 rw [ba_extract, List.drop_zero] at e
 unfold execOp
 simp only [ho, hx, hy, Option.map_none, Option.map_some, Sem.run_bind, run_sliceAt_string _ _ _ _ _ _ h.h, e, Result.andThen_ok, Sem.run_pure]
 rfl
theorem ev_strTail {t : TypeId} {x y : Operand} (ho : o.op = .slice t x (some y) none none) {s r : List UInt8} (hx : a.eval x = strV s) {k : IntKind} {i : Int} (hy : a.eval y = .int k i) [h : Sy P t] (hr : Hid (s.drop i.toNat = r)) (h0 : 0 ≤ i := by omega) (h1 : i ≤ s.length := by omega) : (execOp a.eval o).run P w = .ok (.value (strV r)) w := by
 rw [← hr.out]
 unfold strV at hx
 have e := run_slice_string_l (P := P) w t ⟨s.toArray⟩ h.h k i h0 (by rw [ba_size]; exact h1)
 rw [ba_extract, ba_size, List.take_length] at e
 unfold execOp
 simp only [ho, hx, hy, Option.map_none, Option.map_some, Sem.run_bind, run_sliceAt_string _ _ _ _ _ _ h.h, e, Result.andThen_ok, Sem.run_pure]
 rfl
theorem ev_strEq0 {t t' : TypeId} {x y : Operand} (ho : o.op = .binOp .eql t x y t') {s : List UInt8} (hx : a.eval x = strV s) (hy : a.eval y = strV []) {b : Bool} (hs : Hid ((s == []) = b)) : (execOp a.eval o).run P w = .ok (.value (.bool b)) w := by
 rw [← hs.out]; exact ev_strEq ho hx hy
theorem ev_strNe0 {t t' : TypeId} {x y : Operand} (ho : o.op = .binOp .neq t x y t') {s : List UInt8} (hx : a.eval x = strV s) (hy : a.eval y = strV []) {b : Bool} (hs : Hid ((s == []) = b)) : (execOp a.eval o).run P w = .ok (.value (.bool (!b))) w := by
 rw [← hs.out]; exact ev_strNe ho hx hy
end
theorem prefix_any (w : World) (s : List UInt8) (c : UInt8) {b : Bool} (hb : Hid ((s.head? == some c) = b)) : Calls Tryz.prog 77 #[strV s, .string (ByteArray.mk #[c])] w fun e w' => e = .returned (.bool b) ∧ Fr [] w w' := by
 refine Calls.mono (Tryz.strings_HasPrefix ⟨s.toArray⟩ (ByteArray.mk #[c]) w) ?_
 rintro e w' ⟨rfl, rfl⟩
 refine ⟨?_, Fr.refl _ _⟩
 rw [← hb.out]
 cases s with
 | nil => rfl
 | cons x r =>
  show Ending.returned (.bool (List.isPrefixOf [c] (x :: r))) = _
  have e : List.isPrefixOf [c] (x :: r) = ((x :: r).head? == some c) := by
   rw [List.isPrefixOf_cons_cons, List.head?_cons, Option.some_beq_some, Bool.beq_comm]
   simp [List.isPrefixOf]
  rw [e]
theorem atoi_any (w : World) (s : List UInt8) (hs : Hid (s.all dig = true)) (hn : Hid (s ≠ [])) (hl : s.length ≤ 18) : Calls Tryz.prog 80 #[strV s] w fun e w' => e = .returned (.tuple #[.int .i64 (num s : Int), .nilIface]) ∧ Fr [] w w' := by
 refine Calls.mono (Tryz.strconv_Atoi ⟨s.toArray⟩ (num s : Int) (by rw [ba_size]; exact hl) (atoi_num hs.out hn.out) w) ?_
 rintro e w' ⟨rfl, t, rfl⟩
 exact ⟨rfl, Fr.of_below (Lib.bytesWorld_below _ _ _)⟩
theorem notDig_any (w : World) (x : Nat) (hx : x ≤ 1114111) : Calls Tryz.prog 79 #[.int .i32 (x : Int)] w fun e w' => e = .returned (.bool (notDig x)) ∧ ∃ q, w' = w.drewN q := by
 by_cases h1 : x < 48
 ·have HB := hid (show notDig x = true by unfold notDig; simp; omega)
  have H4 := hid (show decide ((57 : Int) < (x : Int)) = false from decide_eq_false (by omega))
  go_enter Tryz.func79, Tryz.ntmps79; go_wp2; go_ret; exact ⟨by rw [HB.out]; first | rfl | (show Ending.returned (.bool (decide ((57 : Int) < (x : Int)))) = _; rw [H4.out]), 0, rfl⟩
 ·by_cases h2 : 57 < x
  ·have HB := hid (show notDig x = true by unfold notDig; simp; omega)
   have H4 := hid (decide_eq_true (show (57 : Int) < (x : Int) by omega))
   have h3 : ¬ (x : Int) < 48 := by omega
   go_enter Tryz.func79, Tryz.ntmps79; go_wp2; go_ret; exact ⟨by rw [HB.out]; first | rfl | (show Ending.returned (.bool (decide ((57 : Int) < (x : Int)))) = _; rw [H4.out]), 0, rfl⟩
  ·have HB := hid (show notDig x = false by unfold notDig; simp; omega)
   have h3 : ¬ (x : Int) < 48 := by omega
   have H4 := hid (decide_eq_false (show ¬ (57 : Int) < (x : Int) by omega))
   go_enter Tryz.func79, Tryz.ntmps79; go_wp2; go_ret; exact ⟨by rw [HB.out]; first | rfl | (show Ending.returned (.bool (decide ((57 : Int) < (x : Int)))) = _; rw [H4.out]), 0, rfl⟩
theorem notDigs_any (w : World) (s : List UInt8) {b : Bool} (hb : Hid ((!(s.all dig)) = b)) : Calls Tryz.prog 78 #[strV s, .func (.func 79) #[] #[]] w fun e w' => e = .returned (.bool b) ∧ Fr [] w w' := by
 refine Calls.mono (Tryz.strings_ContainsFunc_runes 79 #[] (fun args w => by rfl) notDig ⟨s.toArray⟩ w (fun W x hx _ => notDig_any W x hx)) ?_
 rintro e w' ⟨rfl, hF⟩
 exact ⟨by rw [idx_digits, hb.out], Fr.of_below hF⟩
end Go.Proofs.YthbeeeclgbpopaaGreatDoor
