import Derived.Test.YtbiohhmpclnpgaaGreatDoorXIw32
import Derived.Shelf.Strings.Builder1
import Derived.Shelf.Strings.Builder2
import Derived.Shelf.Strings.OnBuilder
import Derived.Shelf.Strings.BuilderF
import Derived.Shelf.Strconv.Itoa0
import Derived.Shelf.Strconv.Itoa1
import Derived.Shelf.LaysM
import Derived.Shelf.Strconv.Itoa2
import Derived.Shelf.Strconv.Itoa3
import Derived.Shelf.Strings.Repeat
import Derived.Ground.Names2Prog
import Derived.Shelf.Slices.ReverseS
import Derived.Shelf.Slices.Cells
import Derived.Shelf.Strconv.Atoi
import Derived.Shelf.GgClosure.StringsIndexFunc
import Derived.Ground.GgwProg
import Derived.Shelf.GgClosure.StringsIndexFuncTop
import Derived.Shelf.GgClosure.StringsRunes
import Derived.Shelf.Strings.Prefix
namespace Go.Proofs
open Go.Shelf
set_option linter.unusedSimpArgs false
set_option linter.unusedVariables false
def Tryz.laysM171_ren : Go.Shelf.Ren := ⟨fun | 171 => 6 | 243 => 11 | 246 => 35 | 283 => 79 | 284 => 80 | 285 => 81 | 286 => 82 | 129 => 122 | 317 => 121 | 318 => 123 | 319 => 124 | 320 => 125 | 337 => 167 | 338 => 168 | n => n, fun | 3 => 3 | 9 => 9 | 2 => 2 | 4 => 4 | 171 => 135 | 0 => 0 | 53 => 24 | 37 => 37 | 5 => 5 | 173 => 138 | 212 => 176 | 51 => 104 | 20 => 20 | 213 => 177 | 46 => 43 | 232 => 233 | 233 => 234 | n => n, fun | 17 => 0 | 18 => 5 | 19 => 6 | n => n⟩
theorem Tryz.laysM171 : Go.Proofs.LaysM.n171 Tryz.prog Tryz.laysM171_ren := {
 mixed := by kernel_rfl
 f129 := Tryz.func122.trans (congrArg some (by kernel_rfl))
 f171 := Tryz.func6.trans (congrArg some (by kernel_rfl))
 f243 := Tryz.func11.trans (congrArg some (by kernel_rfl))
 f246 := Tryz.func35.trans (congrArg some (by kernel_rfl))
 f283 := Tryz.func79.trans (congrArg some (by kernel_rfl))
 f284 := Tryz.func80.trans (congrArg some (by kernel_rfl))
 f285 := Tryz.func81.trans (congrArg some (by kernel_rfl))
 f286 := Tryz.func82.trans (congrArg some (by kernel_rfl))
 f317 := Tryz.func121.trans (congrArg some (by kernel_rfl))
 f318 := Tryz.func123.trans (congrArg some (by kernel_rfl))
 f319 := Tryz.func124.trans (congrArg some (by kernel_rfl))
 f320 := Tryz.func125.trans (congrArg some (by kernel_rfl))
 f337 := Tryz.func167.trans (congrArg some (by kernel_rfl))
 f338 := Tryz.func168.trans (congrArg some (by kernel_rfl))
 t0 := Tryz.underlying0
 a0 := Tryz.isAgg0
 z0 := Tryz.sizeOf0
 v0 := Tryz.zeroValue0
 t2 := Tryz.underlying2
 a2 := Tryz.isAgg2
 z2 := Tryz.sizeOf2
 v2 := Tryz.zeroValue2
 t3 := Tryz.underlying3
 a3 := Tryz.isAgg3
 z3 := Tryz.sizeOf3
 v3 := Tryz.zeroValue3
 t4 := Tryz.underlying4
 a4 := Tryz.isAgg4
 z4 := Tryz.sizeOf4
 v4 := Tryz.zeroValue4
 t5 := Tryz.underlying5
 a5 := Tryz.isAgg5
 z5 := Tryz.sizeOf5
 v5 := Tryz.zeroValue5
 t9 := Tryz.underlying9
 a9 := Tryz.isAgg9
 z9 := Tryz.sizeOf9
 v9 := Tryz.zeroValue9
 t20 := Tryz.underlying20
 a20 := Tryz.isAgg20
 z20 := Tryz.sizeOf20
 v20 := Tryz.zeroValue20
 t37 := Tryz.underlying37
 a37 := Tryz.isAgg37
 z37 := Tryz.sizeOf37
 v37 := Tryz.zeroValue37
 t46 := Tryz.underlying43
 a46 := Tryz.isAgg43
 z46 := Tryz.sizeOf43
 v46 := Tryz.zeroValue43
 t51 := Tryz.underlying104
 a51 := Tryz.isAgg104
 z51 := Tryz.sizeOf104
 v51 := Tryz.zeroValue104
 t53 := Tryz.underlying24
 a53 := Tryz.isAgg24
 z53 := Tryz.sizeOf24
 v53 := Tryz.zeroValue24
 t171 := Tryz.underlying135
 a171 := Tryz.isAgg135
 z171 := Tryz.sizeOf135
 v171 := Tryz.zeroValue135
 t173 := Tryz.underlying138
 a173 := Tryz.isAgg138
 z173 := Tryz.sizeOf138
 v173 := Tryz.zeroValue138
 t212 := Tryz.underlying176
 a212 := Tryz.isAgg176
 z212 := Tryz.sizeOf176
 v212 := Tryz.zeroValue176
 t213 := Tryz.underlying177
 a213 := Tryz.isAgg177
 z213 := Tryz.sizeOf177
 t232 := Tryz.underlying233
 a232 := Tryz.isAgg233
 z232 := Tryz.sizeOf233
 v232 := Tryz.zeroValue233
 t233 := Tryz.underlying234
 a233 := Tryz.isAgg234
 z233 := Tryz.sizeOf234
 v233 := Tryz.zeroValue234
 g17 := by kernel_rfl
 g18 := by kernel_rfl
 g19 := by kernel_rfl
 i0 := by kernel_rfl
 i2 := by kernel_rfl
 i3 := by kernel_rfl
 i4 := by kernel_rfl
 i5 := by kernel_rfl
 i9 := by kernel_rfl
 i20 := by kernel_rfl
 i37 := by kernel_rfl
 i46 := by kernel_rfl
 i51 := by kernel_rfl
 i53 := by kernel_rfl
 i171 := by kernel_rfl
 i173 := by kernel_rfl
 i212 := by kernel_rfl
 i232 := by kernel_rfl
 i233 := by kernel_rfl
 m17 := by kernel_rfl
 m18 := by kernel_rfl
 m19 := by kernel_rfl }
open Go.RowKit Go.Sort Go.Lib in
theorem Tryz.strconv_Itoa (n : Int) (h0 : -9223372036854775808 ≤ n) (h1 : n ≤ 9223372036854775807) (w : World) (htab : Lib.TabIs Tryz.prog w "internal/strconv.uint64pow10" .u64 Lib.pow10Tab) :
  Calls Tryz.prog 6 #[.int .i64 n] w fun e w' => e = .returned (.string ⟨(Lib.itoa n).toArray⟩) ∧ ∃ k os, w' = grow (w.drewN k) os := Any.strconv_Itoa Tryz.laysM171 n h0 h1 w htab
end Go.Proofs
namespace Go.Proofs.YtbiohhmpclnpgaaGreatDoor
open Go.RowKit
theorem Fr.grow (w : World) (k : Nat) (os : Array Obj) : Fr [] w (Sort.grow (w.drewN k) os) := by
 refine ⟨rfl, rfl, rfl, ?_, fun i hi _ => ?_⟩
 ·show w.heap.size ≤ (w.heap ++ os).size
  simp
 ·show (w.heap ++ os)[i]? = w.heap[i]?
  rw [Array.getElem?_append_left hi]
theorem TabIs.fr {P : Program} {w w' : World} {n : String} {k : IntKind} {zs : List Int} (h : Lib.TabIs P w n k zs) (hf : Fr [] w w') : Lib.TabIs P w' n k zs := by
 unfold Lib.TabIs World.var? at *
 cases hg : P.globalNamed n with
 | none => rw [hg] at h; simp at h
 | some g =>
  rw [hg] at h
  simp only [Option.bind_some] at h ⊢
  cases hb : w.heap[g]? with
  | none => rw [hb] at h; simp at h
  | some o =>
   have hlt : g < w.heap.size := (Array.getElem?_eq_some_iff.1 hb).1
   rw [hf.block g hlt (by simp), hb]
   rw [hb] at h
   exact h
end Go.Proofs.YtbiohhmpclnpgaaGreatDoor
namespace Go.Proofs
open Go.Shelf
set_option linter.unusedSimpArgs false
set_option linter.unusedVariables false
def Tryz.lays172_ren : Go.Shelf.Ren := ⟨fun | 172 => 47 | 244 => 89 | 245 => 90 | 247 => 130 | 279 => 131 | 280 => 132 | 281 => 133 | 282 => 134 | 287 => 173 | 316 => 174 | 171 => 6 | 205 => 175 | 321 => 197 | 322 => 198 | 243 => 11 | 246 => 35 | 283 => 79 | 284 => 80 | 285 => 81 | 286 => 82 | 129 => 122 | 317 => 121 | 318 => 123 | 319 => 124 | 320 => 125 | 337 => 167 | 338 => 168 | n => n, fun | 9 => 9 | 3 => 3 | 75 => 100 | 76 => 101 | 4 => 4 | 5 => 5 | 167 => 181 | 37 => 37 | 0 => 0 | 85 => 182 | 2 => 2 | 168 => 184 | 53 => 24 | 175 => 215 | 46 => 43 | 210 => 218 | 127 => 236 | 145 => 239 | 143 => 237 | 21 => 21 | 171 => 135 | 173 => 138 | 212 => 176 | 51 => 104 | 20 => 20 | 213 => 177 | 232 => 233 | 233 => 234 | 80 => 248 | n => n, fun | 15 => 3 | 16 => 4 | 17 => 0 | 18 => 5 | 19 => 6 | n => n⟩
theorem Tryz.lays172 : Go.Proofs.Lays.n172 Tryz.prog Tryz.lays172_ren := {
 mixed := by kernel_rfl
 f129 := Tryz.func122.trans (congrArg some (by kernel_rfl))
 f171 := Tryz.func6.trans (congrArg some (by kernel_rfl))
 f172 := Tryz.func47.trans (congrArg some (by kernel_rfl))
 f205 := Tryz.func175.trans (congrArg some (by kernel_rfl))
 f243 := Tryz.func11.trans (congrArg some (by kernel_rfl))
 f244 := Tryz.func89.trans (congrArg some (by kernel_rfl))
 f245 := Tryz.func90.trans (congrArg some (by kernel_rfl))
 f246 := Tryz.func35.trans (congrArg some (by kernel_rfl))
 f247 := Tryz.func130.trans (congrArg some (by kernel_rfl))
 f279 := Tryz.func131.trans (congrArg some (by kernel_rfl))
 f280 := Tryz.func132.trans (congrArg some (by kernel_rfl))
 f281 := Tryz.func133.trans (congrArg some (by kernel_rfl))
 f282 := Tryz.func134.trans (congrArg some (by kernel_rfl))
 f283 := Tryz.func79.trans (congrArg some (by kernel_rfl))
 f284 := Tryz.func80.trans (congrArg some (by kernel_rfl))
 f285 := Tryz.func81.trans (congrArg some (by kernel_rfl))
 f286 := Tryz.func82.trans (congrArg some (by kernel_rfl))
 f287 := Tryz.func173.trans (congrArg some (by kernel_rfl))
 f316 := Tryz.func174.trans (congrArg some (by kernel_rfl))
 f317 := Tryz.func121.trans (congrArg some (by kernel_rfl))
 f318 := Tryz.func123.trans (congrArg some (by kernel_rfl))
 f319 := Tryz.func124.trans (congrArg some (by kernel_rfl))
 f320 := Tryz.func125.trans (congrArg some (by kernel_rfl))
 f321 := Tryz.func197.trans (congrArg some (by kernel_rfl))
 f322 := Tryz.func198.trans (congrArg some (by kernel_rfl))
 f337 := Tryz.func167.trans (congrArg some (by kernel_rfl))
 f338 := Tryz.func168.trans (congrArg some (by kernel_rfl))
 t0 := Tryz.underlying0
 a0 := Tryz.isAgg0
 z0 := Tryz.sizeOf0
 v0 := Tryz.zeroValue0
 t2 := Tryz.underlying2
 a2 := Tryz.isAgg2
 z2 := Tryz.sizeOf2
 v2 := Tryz.zeroValue2
 t3 := Tryz.underlying3
 a3 := Tryz.isAgg3
 z3 := Tryz.sizeOf3
 v3 := Tryz.zeroValue3
 t4 := Tryz.underlying4
 a4 := Tryz.isAgg4
 z4 := Tryz.sizeOf4
 v4 := Tryz.zeroValue4
 t5 := Tryz.underlying5
 a5 := Tryz.isAgg5
 z5 := Tryz.sizeOf5
 v5 := Tryz.zeroValue5
 t9 := Tryz.underlying9
 a9 := Tryz.isAgg9
 z9 := Tryz.sizeOf9
 v9 := Tryz.zeroValue9
 t20 := Tryz.underlying20
 a20 := Tryz.isAgg20
 z20 := Tryz.sizeOf20
 v20 := Tryz.zeroValue20
 t21 := Tryz.underlying21
 a21 := Tryz.isAgg21
 z21 := Tryz.sizeOf21
 v21 := Tryz.zeroValue21
 t37 := Tryz.underlying37
 a37 := Tryz.isAgg37
 z37 := Tryz.sizeOf37
 v37 := Tryz.zeroValue37
 t46 := Tryz.underlying43
 a46 := Tryz.isAgg43
 z46 := Tryz.sizeOf43
 v46 := Tryz.zeroValue43
 t51 := Tryz.underlying104
 a51 := Tryz.isAgg104
 z51 := Tryz.sizeOf104
 v51 := Tryz.zeroValue104
 t53 := Tryz.underlying24
 a53 := Tryz.isAgg24
 z53 := Tryz.sizeOf24
 v53 := Tryz.zeroValue24
 t75 := Tryz.underlying100
 a75 := Tryz.isAgg100
 z75 := Tryz.sizeOf100
 v75 := Tryz.zeroValue100
 t76 := Tryz.underlying101
 a76 := Tryz.isAgg101
 z76 := Tryz.sizeOf101
 v76 := Tryz.zeroValue101
 t85 := Tryz.underlying182
 a85 := Tryz.isAgg182
 z85 := Tryz.sizeOf182
 v85 := Tryz.zeroValue182
 t127 := Tryz.underlying236
 a127 := Tryz.isAgg236
 z127 := Tryz.sizeOf236
 v127 := Tryz.zeroValue236
 t143 := Tryz.underlying237
 a143 := Tryz.isAgg237
 z143 := Tryz.sizeOf237
 v143 := Tryz.zeroValue237
 t145 := Tryz.underlying239
 a145 := Tryz.isAgg239
 z145 := Tryz.sizeOf239
 v145 := Tryz.zeroValue239
 t167 := Tryz.underlying181
 a167 := Tryz.isAgg181
 z167 := Tryz.sizeOf181
 v167 := Tryz.zeroValue181
 t168 := Tryz.underlying184
 a168 := Tryz.isAgg184
 z168 := Tryz.sizeOf184
 v168 := Tryz.zeroValue184
 t171 := Tryz.underlying135
 a171 := Tryz.isAgg135
 z171 := Tryz.sizeOf135
 v171 := Tryz.zeroValue135
 t173 := Tryz.underlying138
 a173 := Tryz.isAgg138
 z173 := Tryz.sizeOf138
 v173 := Tryz.zeroValue138
 t175 := Tryz.underlying215
 a175 := Tryz.isAgg215
 z175 := Tryz.sizeOf215
 v175 := Tryz.zeroValue215
 t210 := Tryz.underlying218
 a210 := Tryz.isAgg218
 z210 := Tryz.sizeOf218
 v210 := Tryz.zeroValue218
 t212 := Tryz.underlying176
 a212 := Tryz.isAgg176
 z212 := Tryz.sizeOf176
 v212 := Tryz.zeroValue176
 t213 := Tryz.underlying177
 a213 := Tryz.isAgg177
 z213 := Tryz.sizeOf177
 t232 := Tryz.underlying233
 a232 := Tryz.isAgg233
 z232 := Tryz.sizeOf233
 v232 := Tryz.zeroValue233
 t233 := Tryz.underlying234
 a233 := Tryz.isAgg234
 z233 := Tryz.sizeOf234
 v233 := Tryz.zeroValue234
 g15 := by kernel_rfl
 g16 := by kernel_rfl
 g17 := by kernel_rfl
 g18 := by kernel_rfl
 g19 := by kernel_rfl }
open Go.RowKit in
theorem Tryz.strconv_Atoi (s : ByteArray) (n : Int) (hl : s.size ≤ 18) (h : Lib.atoi s.data.toList = some n) (w : World) :
  Calls Tryz.prog 47 #[.string s] w fun e w' => e = .returned (.tuple #[.int .i64 n, .nilIface]) ∧ ∃ t, w' = Lib.bytesWorld w 5 t := Any.strconv_Atoi Tryz.lays172 s n hl h w
def Tryz.laysGw17_ren : Go.Shelf.Ren := ⟨fun | 17 => 45 | 15 => 88 | 20 => 129 | n => n, fun | 9 => 9 | 23 => 98 | 4 => 4 | 3 => 3 | 0 => 0 | 21 => 21 | n => n, fun | n => n⟩
theorem Tryz.laysGw17 : Go.Proofs.LaysGw.n17 Tryz.prog Tryz.laysGw17_ren := {
 mixed := by kernel_rfl
 f15 := Tryz.func88.trans (congrArg some (by kernel_rfl))
 f17 := Tryz.func45.trans (congrArg some (by kernel_rfl))
 f20 := Tryz.func129.trans (congrArg some (by kernel_rfl))
 t0 := Tryz.underlying0
 a0 := Tryz.isAgg0
 z0 := Tryz.sizeOf0
 v0 := Tryz.zeroValue0
 i0 := by kernel_rfl
 t3 := Tryz.underlying3
 a3 := Tryz.isAgg3
 z3 := Tryz.sizeOf3
 v3 := Tryz.zeroValue3
 i3 := by kernel_rfl
 t4 := Tryz.underlying4
 a4 := Tryz.isAgg4
 z4 := Tryz.sizeOf4
 v4 := Tryz.zeroValue4
 i4 := by kernel_rfl
 t9 := Tryz.underlying9
 a9 := Tryz.isAgg9
 z9 := Tryz.sizeOf9
 v9 := Tryz.zeroValue9
 i9 := by kernel_rfl
 t21 := Tryz.underlying21
 a21 := Tryz.isAgg21
 z21 := Tryz.sizeOf21
 v21 := Tryz.zeroValue21
 i21 := by kernel_rfl
 t23 := Tryz.underlying98
 a23 := Tryz.isAgg98
 z23 := Tryz.sizeOf98
 v23 := Tryz.zeroValue98
 i23 := by kernel_rfl }
open Go.RowKit Go.Lib in
theorem Tryz.strings_ContainsFunc_runes (g : Nat) (lb : Array Value) (eg : ∀ args w, (callFunc g args).run Tryz.prog w = .ok (.enter g args) w) (p : Nat → Bool) (s : ByteArray) (w : World) (hp : PredAtRunes Tryz.prog g lb p w) :
  Calls Tryz.prog 45 #[.string s, .func (.func g) #[] lb] w fun e w' => e = .returned (.bool (decide (0 ≤ Lib.idxFunc p true s))) ∧ Below w.heap.size w w' := Any.strings_ContainsFunc_runes Tryz.laysGw17 g lb eg p s w hp
def Tryz.lays99_ren : Go.Shelf.Ren := ⟨fun | 99 => 38 | 206 => 83 | n => n, fun | 9 => 9 | 4 => 4 | 3 => 3 | n => n, fun | n => n⟩
theorem Tryz.lays99 : Go.Proofs.Lays.n99 Tryz.prog Tryz.lays99_ren := {
 mixed := by kernel_rfl
 f99 := Tryz.func38.trans (congrArg some (by kernel_rfl))
 f206 := Tryz.func83.trans (congrArg some (by kernel_rfl))
 t3 := Tryz.underlying3
 a3 := Tryz.isAgg3
 z3 := Tryz.sizeOf3
 v3 := Tryz.zeroValue3
 t4 := Tryz.underlying4
 a4 := Tryz.isAgg4
 z4 := Tryz.sizeOf4
 v4 := Tryz.zeroValue4
 t9 := Tryz.underlying9
 a9 := Tryz.isAgg9
 z9 := Tryz.sizeOf9
 v9 := Tryz.zeroValue9 }
open Go.RowKit Go.Lib in
theorem Tryz.strings_HasPrefix (s p : ByteArray) (w : World) :
  Calls Tryz.prog 38 #[.string s, .string p] w fun e w' => e = .returned (.bool (Lib.hasPrefix s.data.toList p.data.toList)) ∧ w' = w := Any.strings_HasPrefix Tryz.lays99 s p w
end Go.Proofs
