import Derived.Test.YtomggcdmhflboaaGreatDoorXIw32
import Derived.Shelf.Strings.Builder1
import Derived.Shelf.Strings.Builder2
import Derived.Shelf.Strings.OnBuilder
import Derived.Shelf.Strings.BuilderF
import Derived.Shelf.Strconv.Itoa0
import Derived.Shelf.Strconv.Itoa1
import Derived.Shelf.LaysM
import Derived.Shelf.Strconv.Itoa2
import Derived.Shelf.Strconv.Itoa3
import Derived.Shelf.Strings.Repeat
import Derived.Ground.Names2Prog
import Derived.Shelf.Slices.ReverseS
import Derived.Shelf.Slices.Cells
import Derived.Shelf.Strconv.Atoi
import Derived.Shelf.GgClosure.StringsIndexFunc
import Derived.Ground.GgwProg
import Derived.Shelf.GgClosure.StringsIndexFuncTop
import Derived.Shelf.GgClosure.StringsRunes
import Derived.Shelf.Strings.Prefix
namespace Go.Proofs
open Go.Shelf
set_option linter.unusedSimpArgs false
set_option linter.unusedVariables false
def Tryz.laysM171_ren : Go.Shelf.Ren := ⟨fun | 171 => 11 | 243 => 35 | 246 => 64 | 283 => 94 | 284 => 95 | 285 => 96 | 286 => 97 | 129 => 154 | 317 => 153 | 318 => 155 | 319 => 156 | 320 => 157 | 337 => 198 | 338 => 202 | n => n, fun | 3 => 3 | 9 => 9 | 2 => 2 | 4 => 4 | 171 => 136 | 0 => 0 | 53 => 44 | 37 => 22 | 5 => 5 | 173 => 139 | 212 => 190 | 51 => 126 | 20 => 20 | 213 => 191 | 46 => 78 | 232 => 236 | 233 => 239 | n => n, fun | 17 => 2 | 18 => 6 | 19 => 7 | n => n⟩
theorem Tryz.laysM171 : Go.Proofs.LaysM.n171 Tryz.prog Tryz.laysM171_ren := {
 mixed := by kernel_rfl
 f129 := Tryz.func154.trans (congrArg some (by kernel_rfl))
 f171 := Tryz.func11.trans (congrArg some (by kernel_rfl))
 f243 := Tryz.func35.trans (congrArg some (by kernel_rfl))
 f246 := Tryz.func64.trans (congrArg some (by kernel_rfl))
 f283 := Tryz.func94.trans (congrArg some (by kernel_rfl))
 f284 := Tryz.func95.trans (congrArg some (by kernel_rfl))
 f285 := Tryz.func96.trans (congrArg some (by kernel_rfl))
 f286 := Tryz.func97.trans (congrArg some (by kernel_rfl))
 f317 := Tryz.func153.trans (congrArg some (by kernel_rfl))
 f318 := Tryz.func155.trans (congrArg some (by kernel_rfl))
 f319 := Tryz.func156.trans (congrArg some (by kernel_rfl))
 f320 := Tryz.func157.trans (congrArg some (by kernel_rfl))
 f337 := Tryz.func198.trans (congrArg some (by kernel_rfl))
 f338 := Tryz.func202.trans (congrArg some (by kernel_rfl))
 t0 := Tryz.underlying0
 a0 := Tryz.isAgg0
 z0 := Tryz.sizeOf0
 v0 := Tryz.zeroValue0
 t2 := Tryz.underlying2
 a2 := Tryz.isAgg2
 z2 := Tryz.sizeOf2
 v2 := Tryz.zeroValue2
 t3 := Tryz.underlying3
 a3 := Tryz.isAgg3
 z3 := Tryz.sizeOf3
 v3 := Tryz.zeroValue3
 t4 := Tryz.underlying4
 a4 := Tryz.isAgg4
 z4 := Tryz.sizeOf4
 v4 := Tryz.zeroValue4
 t5 := Tryz.underlying5
 a5 := Tryz.isAgg5
 z5 := Tryz.sizeOf5
 v5 := Tryz.zeroValue5
 t9 := Tryz.underlying9
 a9 := Tryz.isAgg9
 z9 := Tryz.sizeOf9
 v9 := Tryz.zeroValue9
 t20 := Tryz.underlying20
 a20 := Tryz.isAgg20
 z20 := Tryz.sizeOf20
 v20 := Tryz.zeroValue20
 t37 := Tryz.underlying22
 a37 := Tryz.isAgg22
 z37 := Tryz.sizeOf22
 v37 := Tryz.zeroValue22
 t46 := Tryz.underlying78
 a46 := Tryz.isAgg78
 z46 := Tryz.sizeOf78
 v46 := Tryz.zeroValue78
 t51 := Tryz.underlying126
 a51 := Tryz.isAgg126
 z51 := Tryz.sizeOf126
 v51 := Tryz.zeroValue126
 t53 := Tryz.underlying44
 a53 := Tryz.isAgg44
 z53 := Tryz.sizeOf44
 v53 := Tryz.zeroValue44
 t171 := Tryz.underlying136
 a171 := Tryz.isAgg136
 z171 := Tryz.sizeOf136
 v171 := Tryz.zeroValue136
 t173 := Tryz.underlying139
 a173 := Tryz.isAgg139
 z173 := Tryz.sizeOf139
 v173 := Tryz.zeroValue139
 t212 := Tryz.underlying190
 a212 := Tryz.isAgg190
 z212 := Tryz.sizeOf190
 v212 := Tryz.zeroValue190
 t213 := Tryz.underlying191
 a213 := Tryz.isAgg191
 z213 := Tryz.sizeOf191
 t232 := Tryz.underlying236
 a232 := Tryz.isAgg236
 z232 := Tryz.sizeOf236
 v232 := Tryz.zeroValue236
 t233 := Tryz.underlying239
 a233 := Tryz.isAgg239
 z233 := Tryz.sizeOf239
 v233 := Tryz.zeroValue239
 g17 := by kernel_rfl
 g18 := by kernel_rfl
 g19 := by kernel_rfl
 i0 := by kernel_rfl
 i2 := by kernel_rfl
 i3 := by kernel_rfl
 i4 := by kernel_rfl
 i5 := by kernel_rfl
 i9 := by kernel_rfl
 i20 := by kernel_rfl
 i37 := by kernel_rfl
 i46 := by kernel_rfl
 i51 := by kernel_rfl
 i53 := by kernel_rfl
 i171 := by kernel_rfl
 i173 := by kernel_rfl
 i212 := by kernel_rfl
 i232 := by kernel_rfl
 i233 := by kernel_rfl
 m17 := by kernel_rfl
 m18 := by kernel_rfl
 m19 := by kernel_rfl }
open Go.RowKit Go.Sort Go.Lib in
theorem Tryz.strconv_Itoa (n : Int) (h0 : -9223372036854775808 ≤ n) (h1 : n ≤ 9223372036854775807) (w : World) (htab : Lib.TabIs Tryz.prog w "internal/strconv.uint64pow10" .u64 Lib.pow10Tab) :
  Calls Tryz.prog 11 #[.int .i64 n] w fun e w' => e = .returned (.string ⟨(Lib.itoa n).toArray⟩) ∧ ∃ k os, w' = grow (w.drewN k) os := Any.strconv_Itoa Tryz.laysM171 n h0 h1 w htab
end Go.Proofs
namespace Go.Proofs.YtomggcdmhflboaaGreatDoor
open Go.RowKit
theorem Fr.grow (w : World) (k : Nat) (os : Array Obj) : Fr [] w (Sort.grow (w.drewN k) os) := by
 refine ⟨rfl, rfl, rfl, ?_, fun i hi _ => ?_⟩
 ·show w.heap.size ≤ (w.heap ++ os).size
  simp
 ·show (w.heap ++ os)[i]? = w.heap[i]?
  rw [Array.getElem?_append_left hi]
theorem TabIs.fr {P : Program} {w w' : World} {n : String} {k : IntKind} {zs : List Int} (h : Lib.TabIs P w n k zs) (hf : Fr [] w w') : Lib.TabIs P w' n k zs := by
 unfold Lib.TabIs World.var? at *
 cases hg : P.globalNamed n with
 | none => rw [hg] at h; simp at h
 | some g =>
  rw [hg] at h
  simp only [Option.bind_some] at h ⊢
  cases hb : w.heap[g]? with
  | none => rw [hb] at h; simp at h
  | some o =>
   have hlt : g < w.heap.size := (Array.getElem?_eq_some_iff.1 hb).1
   rw [hf.block g hlt (by simp), hb]
   rw [hb] at h
   exact h
theorem itoa_any (x : Nat) (hx : x ≤ 9223372036854775807) (w : World) (ht : Lib.TabIs Tryz.prog w "internal/strconv.uint64pow10" .u64 Lib.pow10Tab) :
  Calls Tryz.prog 11 #[.int .i64 (x : Int)] w fun e w' => e = .returned (strV (Lib.decDigits x)) ∧ Fr [] w w' := by
 refine Calls.mono (Tryz.strconv_Itoa (x : Int) (by omega) (by omega) w ht) ?_
 rintro e w' ⟨rfl, k, os, rfl⟩
 refine ⟨?_, Fr.grow w k os⟩
 rw [Lib.itoa, if_neg (by omega)]
 rfl
end Go.Proofs.YtomggcdmhflboaaGreatDoor
namespace Go.Proofs
open Go.Shelf
set_option linter.unusedSimpArgs false
set_option linter.unusedVariables false
def Tryz.lays172_ren : Go.Shelf.Ren := ⟨fun | 172 => 113 | 244 => 166 | 245 => 167 | 247 => 210 | 279 => 211 | 280 => 212 | 281 => 213 | 282 => 214 | 287 => 232 | 316 => 233 | 171 => 11 | 205 => 234 | 321 => 246 | 322 => 247 | 243 => 35 | 246 => 64 | 283 => 94 | 284 => 95 | 285 => 96 | 286 => 97 | 129 => 154 | 317 => 153 | 318 => 155 | 319 => 156 | 320 => 157 | 337 => 198 | 338 => 202 | n => n, fun | 9 => 9 | 3 => 3 | 75 => 159 | 76 => 160 | 4 => 4 | 5 => 5 | 167 => 224 | 37 => 22 | 0 => 0 | 85 => 225 | 2 => 2 | 168 => 227 | 53 => 44 | 175 => 242 | 46 => 78 | 210 => 245 | 127 => 255 | 145 => 258 | 143 => 256 | 21 => 21 | 171 => 136 | 173 => 139 | 212 => 190 | 51 => 126 | 20 => 20 | 213 => 191 | 232 => 236 | 233 => 239 | 80 => 266 | n => n, fun | 15 => 8 | 16 => 9 | 17 => 2 | 18 => 6 | 19 => 7 | n => n⟩
theorem Tryz.lays172 : Go.Proofs.Lays.n172 Tryz.prog Tryz.lays172_ren := {
 mixed := by kernel_rfl
 f129 := Tryz.func154.trans (congrArg some (by kernel_rfl))
 f171 := Tryz.func11.trans (congrArg some (by kernel_rfl))
 f172 := Tryz.func113.trans (congrArg some (by kernel_rfl))
 f205 := Tryz.func234.trans (congrArg some (by kernel_rfl))
 f243 := Tryz.func35.trans (congrArg some (by kernel_rfl))
 f244 := Tryz.func166.trans (congrArg some (by kernel_rfl))
 f245 := Tryz.func167.trans (congrArg some (by kernel_rfl))
 f246 := Tryz.func64.trans (congrArg some (by kernel_rfl))
 f247 := Tryz.func210.trans (congrArg some (by kernel_rfl))
 f279 := Tryz.func211.trans (congrArg some (by kernel_rfl))
 f280 := Tryz.func212.trans (congrArg some (by kernel_rfl))
 f281 := Tryz.func213.trans (congrArg some (by kernel_rfl))
 f282 := Tryz.func214.trans (congrArg some (by kernel_rfl))
 f283 := Tryz.func94.trans (congrArg some (by kernel_rfl))
 f284 := Tryz.func95.trans (congrArg some (by kernel_rfl))
 f285 := Tryz.func96.trans (congrArg some (by kernel_rfl))
 f286 := Tryz.func97.trans (congrArg some (by kernel_rfl))
 f287 := Tryz.func232.trans (congrArg some (by kernel_rfl))
 f316 := Tryz.func233.trans (congrArg some (by kernel_rfl))
 f317 := Tryz.func153.trans (congrArg some (by kernel_rfl))
 f318 := Tryz.func155.trans (congrArg some (by kernel_rfl))
 f319 := Tryz.func156.trans (congrArg some (by kernel_rfl))
 f320 := Tryz.func157.trans (congrArg some (by kernel_rfl))
 f321 := Tryz.func246.trans (congrArg some (by kernel_rfl))
 f322 := Tryz.func247.trans (congrArg some (by kernel_rfl))
 f337 := Tryz.func198.trans (congrArg some (by kernel_rfl))
 f338 := Tryz.func202.trans (congrArg some (by kernel_rfl))
 t0 := Tryz.underlying0
 a0 := Tryz.isAgg0
 z0 := Tryz.sizeOf0
 v0 := Tryz.zeroValue0
 t2 := Tryz.underlying2
 a2 := Tryz.isAgg2
 z2 := Tryz.sizeOf2
 v2 := Tryz.zeroValue2
 t3 := Tryz.underlying3
 a3 := Tryz.isAgg3
 z3 := Tryz.sizeOf3
 v3 := Tryz.zeroValue3
 t4 := Tryz.underlying4
 a4 := Tryz.isAgg4
 z4 := Tryz.sizeOf4
 v4 := Tryz.zeroValue4
 t5 := Tryz.underlying5
 a5 := Tryz.isAgg5
 z5 := Tryz.sizeOf5
 v5 := Tryz.zeroValue5
 t9 := Tryz.underlying9
 a9 := Tryz.isAgg9
 z9 := Tryz.sizeOf9
 v9 := Tryz.zeroValue9
 t20 := Tryz.underlying20
 a20 := Tryz.isAgg20
 z20 := Tryz.sizeOf20
 v20 := Tryz.zeroValue20
 t21 := Tryz.underlying21
 a21 := Tryz.isAgg21
 z21 := Tryz.sizeOf21
 v21 := Tryz.zeroValue21
 t37 := Tryz.underlying22
 a37 := Tryz.isAgg22
 z37 := Tryz.sizeOf22
 v37 := Tryz.zeroValue22
 t46 := Tryz.underlying78
 a46 := Tryz.isAgg78
 z46 := Tryz.sizeOf78
 v46 := Tryz.zeroValue78
 t51 := Tryz.underlying126
 a51 := Tryz.isAgg126
 z51 := Tryz.sizeOf126
 v51 := Tryz.zeroValue126
 t53 := Tryz.underlying44
 a53 := Tryz.isAgg44
 z53 := Tryz.sizeOf44
 v53 := Tryz.zeroValue44
 t75 := Tryz.underlying159
 a75 := Tryz.isAgg159
 z75 := Tryz.sizeOf159
 v75 := Tryz.zeroValue159
 t76 := Tryz.underlying160
 a76 := Tryz.isAgg160
 z76 := Tryz.sizeOf160
 v76 := Tryz.zeroValue160
 t85 := Tryz.underlying225
 a85 := Tryz.isAgg225
 z85 := Tryz.sizeOf225
 v85 := Tryz.zeroValue225
 t127 := Tryz.underlying255
 a127 := Tryz.isAgg255
 z127 := Tryz.sizeOf255
 v127 := Tryz.zeroValue255
 t143 := Tryz.underlying256
 a143 := Tryz.isAgg256
 z143 := Tryz.sizeOf256
 v143 := Tryz.zeroValue256
 t145 := Tryz.underlying258
 a145 := Tryz.isAgg258
 z145 := Tryz.sizeOf258
 v145 := Tryz.zeroValue258
 t167 := Tryz.underlying224
 a167 := Tryz.isAgg224
 z167 := Tryz.sizeOf224
 v167 := Tryz.zeroValue224
 t168 := Tryz.underlying227
 a168 := Tryz.isAgg227
 z168 := Tryz.sizeOf227
 v168 := Tryz.zeroValue227
 t171 := Tryz.underlying136
 a171 := Tryz.isAgg136
 z171 := Tryz.sizeOf136
 v171 := Tryz.zeroValue136
 t173 := Tryz.underlying139
 a173 := Tryz.isAgg139
 z173 := Tryz.sizeOf139
 v173 := Tryz.zeroValue139
 t175 := Tryz.underlying242
 a175 := Tryz.isAgg242
 z175 := Tryz.sizeOf242
 v175 := Tryz.zeroValue242
 t210 := Tryz.underlying245
 a210 := Tryz.isAgg245
 z210 := Tryz.sizeOf245
 v210 := Tryz.zeroValue245
 t212 := Tryz.underlying190
 a212 := Tryz.isAgg190
 z212 := Tryz.sizeOf190
 v212 := Tryz.zeroValue190
 t213 := Tryz.underlying191
 a213 := Tryz.isAgg191
 z213 := Tryz.sizeOf191
 t232 := Tryz.underlying236
 a232 := Tryz.isAgg236
 z232 := Tryz.sizeOf236
 v232 := Tryz.zeroValue236
 t233 := Tryz.underlying239
 a233 := Tryz.isAgg239
 z233 := Tryz.sizeOf239
 v233 := Tryz.zeroValue239
 g15 := by kernel_rfl
 g16 := by kernel_rfl
 g17 := by kernel_rfl
 g18 := by kernel_rfl
 g19 := by kernel_rfl }
open Go.RowKit in
theorem Tryz.strconv_Atoi (s : ByteArray) (n : Int) (hl : s.size ≤ 18) (h : Lib.atoi s.data.toList = some n) (w : World) :
  Calls Tryz.prog 113 #[.string s] w fun e w' => e = .returned (.tuple #[.int .i64 n, .nilIface]) ∧ ∃ t, w' = Lib.bytesWorld w 5 t := Any.strconv_Atoi Tryz.lays172 s n hl h w
def Tryz.laysGw17_ren : Go.Shelf.Ren := ⟨fun | 17 => 111 | 15 => 165 | 20 => 209 | n => n, fun | 9 => 9 | 23 => 115 | 4 => 4 | 3 => 3 | 0 => 0 | 21 => 21 | n => n, fun | n => n⟩
theorem Tryz.laysGw17 : Go.Proofs.LaysGw.n17 Tryz.prog Tryz.laysGw17_ren := {
 mixed := by kernel_rfl
 f15 := Tryz.func165.trans (congrArg some (by kernel_rfl))
 f17 := Tryz.func111.trans (congrArg some (by kernel_rfl))
 f20 := Tryz.func209.trans (congrArg some (by kernel_rfl))
 t0 := Tryz.underlying0
 a0 := Tryz.isAgg0
 z0 := Tryz.sizeOf0
 v0 := Tryz.zeroValue0
 i0 := by kernel_rfl
 t3 := Tryz.underlying3
 a3 := Tryz.isAgg3
 z3 := Tryz.sizeOf3
 v3 := Tryz.zeroValue3
 i3 := by kernel_rfl
 t4 := Tryz.underlying4
 a4 := Tryz.isAgg4
 z4 := Tryz.sizeOf4
 v4 := Tryz.zeroValue4
 i4 := by kernel_rfl
 t9 := Tryz.underlying9
 a9 := Tryz.isAgg9
 z9 := Tryz.sizeOf9
 v9 := Tryz.zeroValue9
 i9 := by kernel_rfl
 t21 := Tryz.underlying21
 a21 := Tryz.isAgg21
 z21 := Tryz.sizeOf21
 v21 := Tryz.zeroValue21
 i21 := by kernel_rfl
 t23 := Tryz.underlying115
 a23 := Tryz.isAgg115
 z23 := Tryz.sizeOf115
 v23 := Tryz.zeroValue115
 i23 := by kernel_rfl }
open Go.RowKit Go.Lib in
theorem Tryz.strings_ContainsFunc_runes (g : Nat) (lb : Array Value) (eg : ∀ args w, (callFunc g args).run Tryz.prog w = .ok (.enter g args) w) (p : Nat → Bool) (s : ByteArray) (w : World) (hp : PredAtRunes Tryz.prog g lb p w) :
  Calls Tryz.prog 111 #[.string s, .func (.func g) #[] lb] w fun e w' => e = .returned (.bool (decide (0 ≤ Lib.idxFunc p true s))) ∧ Below w.heap.size w w' := Any.strings_ContainsFunc_runes Tryz.laysGw17 g lb eg p s w hp
def Tryz.lays99_ren : Go.Shelf.Ren := ⟨fun | 99 => 110 | 206 => 164 | n => n, fun | 9 => 9 | 4 => 4 | 3 => 3 | n => n, fun | n => n⟩
theorem Tryz.lays99 : Go.Proofs.Lays.n99 Tryz.prog Tryz.lays99_ren := {
 mixed := by kernel_rfl
 f99 := Tryz.func110.trans (congrArg some (by kernel_rfl))
 f206 := Tryz.func164.trans (congrArg some (by kernel_rfl))
 t3 := Tryz.underlying3
 a3 := Tryz.isAgg3
 z3 := Tryz.sizeOf3
 v3 := Tryz.zeroValue3
 t4 := Tryz.underlying4
 a4 := Tryz.isAgg4
 z4 := Tryz.sizeOf4
 v4 := Tryz.zeroValue4
 t9 := Tryz.underlying9
 a9 := Tryz.isAgg9
 z9 := Tryz.sizeOf9
 v9 := Tryz.zeroValue9 }
open Go.RowKit Go.Lib in
theorem Tryz.strings_HasPrefix (s p : ByteArray) (w : World) :
  Calls Tryz.prog 110 #[.string s, .string p] w fun e w' => e = .returned (.bool (Lib.hasPrefix s.data.toList p.data.toList)) ∧ w' = w := Any.strings_HasPrefix Tryz.lays99 s p w
end Go.Proofs
