/-
  The shelf's contracts for strings and numerals (written by the kit's lay-plain), and what they say in this seat's words.
-/
import Derived.Test.YthbeeeclgbpopaaGreatDoorIw28
import Derived.Shelf.Strings.Builder1
import Derived.Shelf.Strings.Builder2
import Derived.Shelf.Strings.OnBuilder
import Derived.Shelf.Strings.BuilderF
import Derived.Shelf.Strconv.Itoa0
import Derived.Shelf.Strconv.Itoa1
import Derived.Shelf.LaysM
import Derived.Shelf.Strconv.Itoa2
import Derived.Shelf.Strconv.Itoa3
import Derived.Shelf.Strings.Repeat
import Derived.Ground.Names2Prog
import Derived.Shelf.Slices.ReverseS
import Derived.Shelf.Slices.Cells
namespace Go.Proofs
open Go.Shelf
set_option linter.unusedSimpArgs false
set_option linter.unusedVariables false
def Tryz.lays156_ren : Go.Shelf.Ren := ⟨fun | 156 => 120 | 165 => 145 | 166 => 146 | 169 => 148 | 240 => 186 | 241 => 187 | 276 => 211 | 277 => 212 | n => n, fun | 31 => 42 | 9 => 9 | 3 => 3 | 4 => 4 | 0 => 0 | 20 => 20 | 72 => 149 | 76 => 96 | 70 => 147 | 37 => 81 | 75 => 95 | 127 => 181 | 164 => 200 | 5 => 5 | 80 => 152 | n => n, fun | n => n⟩
theorem Tryz.lays156 : Go.Proofs.Lays.n156 Tryz.prog Tryz.lays156_ren := {
  mixed := by kernel_rfl
  f156 := Tryz.func120.trans (congrArg some (by kernel_rfl))
  f165 := Tryz.func145.trans (congrArg some (by kernel_rfl))
  f166 := Tryz.func146.trans (congrArg some (by kernel_rfl))
  f169 := Tryz.func148.trans (congrArg some (by kernel_rfl))
  f240 := Tryz.func186.trans (congrArg some (by kernel_rfl))
  f241 := Tryz.func187.trans (congrArg some (by kernel_rfl))
  f276 := Tryz.func211.trans (congrArg some (by kernel_rfl))
  f277 := Tryz.func212.trans (congrArg some (by kernel_rfl))
  t0 := Tryz.underlying0
  a0 := Tryz.isAgg0
  z0 := Tryz.sizeOf0
  v0 := Tryz.zeroValue0
  t3 := Tryz.underlying3
  a3 := Tryz.isAgg3
  z3 := Tryz.sizeOf3
  v3 := Tryz.zeroValue3
  t4 := Tryz.underlying4
  a4 := Tryz.isAgg4
  z4 := Tryz.sizeOf4
  v4 := Tryz.zeroValue4
  t9 := Tryz.underlying9
  a9 := Tryz.isAgg9
  z9 := Tryz.sizeOf9
  v9 := Tryz.zeroValue9
  t20 := Tryz.underlying20
  a20 := Tryz.isAgg20
  z20 := Tryz.sizeOf20
  v20 := Tryz.zeroValue20
  t31 := Tryz.underlying42
  a31 := Tryz.isAgg42
  z31 := Tryz.sizeOf42
  v31 := Tryz.zeroValue42
  t37 := Tryz.underlying81
  a37 := Tryz.isAgg81
  z37 := Tryz.sizeOf81
  v37 := Tryz.zeroValue81
  t70 := Tryz.underlying147
  a70 := Tryz.isAgg147
  z70 := Tryz.sizeOf147
  v70 := Tryz.zeroValue147
  t72 := Tryz.underlying149
  a72 := Tryz.isAgg149
  z72 := Tryz.sizeOf149
  v72 := Tryz.zeroValue149
  t75 := Tryz.underlying95
  a75 := Tryz.isAgg95
  z75 := Tryz.sizeOf95
  v75 := Tryz.zeroValue95
  t76 := Tryz.underlying96
  a76 := Tryz.isAgg96
  z76 := Tryz.sizeOf96
  v76 := Tryz.zeroValue96
  t127 := Tryz.underlying181
  a127 := Tryz.isAgg181
  z127 := Tryz.sizeOf181
  v127 := Tryz.zeroValue181
  t164 := Tryz.underlying200
  a164 := Tryz.isAgg200
  z164 := Tryz.sizeOf200
  v164 := Tryz.zeroValue200 }
theorem Tryz.Builder_Extra_156 : Builder.Extra Tryz.prog Tryz.lays156_ren := {
  sizeBuilder := by kernel_rfl
  liesBuilder := by kernel_rfl
  t5 := Tryz.underlying5
  a5 := Tryz.isAgg5
  z5 := Tryz.sizeOf5
  v5 := Tryz.zeroValue5
  infoByte := by kernel_rfl
  cellsByte := by kernel_rfl
  sizeByte := by kernel_rfl
  neB5 := by decide }
open Go.RowKit in
/-- strings.Join: "Join concatenates the elements of its first argument to create a single string. The separator string sep is placed between elements in the resulting string.": HOWEVER MANY ELEMENTS. Below the heap's end the world is as it was. (LAID: no walk: one application.) -/
theorem Tryz.strings_Join (bk o c : Nat) (xs : List ByteArray) (sep : ByteArray) (w : World) (hcells : ∀ (j : Nat) x, xs[j]? = some x → w.cell? ⟨bk, o + j, none⟩ = some (.string x)) (hbk : bk < w.heap.size) (hN : xs.length ≤ 140737488355328) (hcap : xs.length ≤ c) (hlen : (Lib.join (xs.map (·.data.toList)) sep.data.toList).length ≤ 140737488355328) :
    Calls Tryz.prog 120 #[.slice (some ⟨bk, o, none⟩) xs.length c, .string sep] w fun e w' => e = .returned (.string ⟨(Lib.join (xs.map (·.data.toList)) sep.data.toList).toArray⟩) ∧ Below w.heap.size w w' := Any.strings_Join Tryz.lays156 Tryz.Builder_Extra_156 bk o c xs sep w hcells hbk hN hcap hlen
def Tryz.laysM171_ren : Go.Shelf.Ren := ⟨fun | 171 => 20 | 243 => 55 | 246 => 124 | 283 => 175 | 284 => 176 | 285 => 177 | 286 => 178 | 129 => 206 | 317 => 205 | 318 => 207 | 319 => 208 | 320 => 209 | 337 => 136 | 338 => 225 | n => n, fun | 3 => 3 | 9 => 9 | 2 => 2 | 4 => 4 | 171 => 167 | 0 => 0 | 53 => 24 | 37 => 81 | 5 => 5 | 173 => 170 | 212 => 196 | 51 => 99 | 20 => 20 | 213 => 197 | 46 => 75 | 232 => 173 | 233 => 220 | n => n, fun | 17 => 1 | 18 => 0 | 19 => 7 | n => n⟩
theorem Tryz.laysM171 : Go.Proofs.LaysM.n171 Tryz.prog Tryz.laysM171_ren := {
  mixed := by kernel_rfl
  f129 := Tryz.func206.trans (congrArg some (by kernel_rfl))
  f171 := Tryz.func20.trans (congrArg some (by kernel_rfl))
  f243 := Tryz.func55.trans (congrArg some (by kernel_rfl))
  f246 := Tryz.func124.trans (congrArg some (by kernel_rfl))
  f283 := Tryz.func175.trans (congrArg some (by kernel_rfl))
  f284 := Tryz.func176.trans (congrArg some (by kernel_rfl))
  f285 := Tryz.func177.trans (congrArg some (by kernel_rfl))
  f286 := Tryz.func178.trans (congrArg some (by kernel_rfl))
  f317 := Tryz.func205.trans (congrArg some (by kernel_rfl))
  f318 := Tryz.func207.trans (congrArg some (by kernel_rfl))
  f319 := Tryz.func208.trans (congrArg some (by kernel_rfl))
  f320 := Tryz.func209.trans (congrArg some (by kernel_rfl))
  f337 := Tryz.func136.trans (congrArg some (by kernel_rfl))
  f338 := Tryz.func225.trans (congrArg some (by kernel_rfl))
  t0 := Tryz.underlying0
  a0 := Tryz.isAgg0
  z0 := Tryz.sizeOf0
  v0 := Tryz.zeroValue0
  t2 := Tryz.underlying2
  a2 := Tryz.isAgg2
  z2 := Tryz.sizeOf2
  v2 := Tryz.zeroValue2
  t3 := Tryz.underlying3
  a3 := Tryz.isAgg3
  z3 := Tryz.sizeOf3
  v3 := Tryz.zeroValue3
  t4 := Tryz.underlying4
  a4 := Tryz.isAgg4
  z4 := Tryz.sizeOf4
  v4 := Tryz.zeroValue4
  t5 := Tryz.underlying5
  a5 := Tryz.isAgg5
  z5 := Tryz.sizeOf5
  v5 := Tryz.zeroValue5
  t9 := Tryz.underlying9
  a9 := Tryz.isAgg9
  z9 := Tryz.sizeOf9
  v9 := Tryz.zeroValue9
  t20 := Tryz.underlying20
  a20 := Tryz.isAgg20
  z20 := Tryz.sizeOf20
  v20 := Tryz.zeroValue20
  t37 := Tryz.underlying81
  a37 := Tryz.isAgg81
  z37 := Tryz.sizeOf81
  v37 := Tryz.zeroValue81
  t46 := Tryz.underlying75
  a46 := Tryz.isAgg75
  z46 := Tryz.sizeOf75
  v46 := Tryz.zeroValue75
  t51 := Tryz.underlying99
  a51 := Tryz.isAgg99
  z51 := Tryz.sizeOf99
  v51 := Tryz.zeroValue99
  t53 := Tryz.underlying24
  a53 := Tryz.isAgg24
  z53 := Tryz.sizeOf24
  v53 := Tryz.zeroValue24
  t171 := Tryz.underlying167
  a171 := Tryz.isAgg167
  z171 := Tryz.sizeOf167
  v171 := Tryz.zeroValue167
  t173 := Tryz.underlying170
  a173 := Tryz.isAgg170
  z173 := Tryz.sizeOf170
  v173 := Tryz.zeroValue170
  t212 := Tryz.underlying196
  a212 := Tryz.isAgg196
  z212 := Tryz.sizeOf196
  v212 := Tryz.zeroValue196
  t213 := Tryz.underlying197
  a213 := Tryz.isAgg197
  z213 := Tryz.sizeOf197
  t232 := Tryz.underlying173
  a232 := Tryz.isAgg173
  z232 := Tryz.sizeOf173
  v232 := Tryz.zeroValue173
  t233 := Tryz.underlying220
  a233 := Tryz.isAgg220
  z233 := Tryz.sizeOf220
  v233 := Tryz.zeroValue220
  g17 := by kernel_rfl
  g18 := by kernel_rfl
  g19 := by kernel_rfl
  i0 := by kernel_rfl
  i2 := by kernel_rfl
  i3 := by kernel_rfl
  i4 := by kernel_rfl
  i5 := by kernel_rfl
  i9 := by kernel_rfl
  i20 := by kernel_rfl
  i37 := by kernel_rfl
  i46 := by kernel_rfl
  i51 := by kernel_rfl
  i53 := by kernel_rfl
  i171 := by kernel_rfl
  i173 := by kernel_rfl
  i212 := by kernel_rfl
  i232 := by kernel_rfl
  i233 := by kernel_rfl
  m17 := by kernel_rfl
  m18 := by kernel_rfl
  m19 := by kernel_rfl }
open Go.RowKit Go.Sort Go.Lib in
/-- strconv.Itoa: "Itoa is equivalent to FormatInt(int64(i), 10).": i's DECIMAL NUMERAL ('Lib.itoa': a '-' where i is negative, then the digits), FOR EVERY int. The world behind the call: the world before it, new blocks behind the heap (the library's 'var a [24]byte'), draws. (LAID: no walk: one application.) -/
theorem Tryz.strconv_Itoa (n : Int) (h0 : -9223372036854775808 ≤ n) (h1 : n ≤ 9223372036854775807) (w : World) (htab : Lib.TabIs Tryz.prog w "internal/strconv.uint64pow10" .u64 Lib.pow10Tab) :
    Calls Tryz.prog 20 #[.int .i64 n] w fun e w' => e = .returned (.string ⟨(Lib.itoa n).toArray⟩) ∧ ∃ k os, w' = grow (w.drewN k) os := Any.strconv_Itoa Tryz.laysM171 n h0 h1 w htab
def Tryz.lays105_ren : Go.Shelf.Ren := ⟨fun | 105 => 74 | 212 => 144 | 99 => 77 | 165 => 145 | 166 => 146 | 170 => 147 | 169 => 148 | 263 => 184 | 264 => 185 | 206 => 150 | 240 => 186 | 241 => 187 | 276 => 211 | 277 => 212 | n => n, fun | 9 => 9 | 3 => 3 | 4 => 4 | 20 => 20 | 0 => 0 | 46 => 75 | 109 => 145 | 5 => 5 | 72 => 149 | 76 => 96 | 51 => 99 | 146 => 177 | 53 => 24 | 148 => 179 | 70 => 147 | 37 => 81 | 75 => 95 | 127 => 181 | 164 => 200 | 80 => 152 | n => n, fun | n => n⟩
theorem Tryz.lays105 : Go.Proofs.Lays.n105 Tryz.prog Tryz.lays105_ren := {
  mixed := by kernel_rfl
  f99 := Tryz.func77.trans (congrArg some (by kernel_rfl))
  f105 := Tryz.func74.trans (congrArg some (by kernel_rfl))
  f165 := Tryz.func145.trans (congrArg some (by kernel_rfl))
  f166 := Tryz.func146.trans (congrArg some (by kernel_rfl))
  f169 := Tryz.func148.trans (congrArg some (by kernel_rfl))
  f170 := Tryz.func147.trans (congrArg some (by kernel_rfl))
  f206 := Tryz.func150.trans (congrArg some (by kernel_rfl))
  f212 := Tryz.func144.trans (congrArg some (by kernel_rfl))
  f240 := Tryz.func186.trans (congrArg some (by kernel_rfl))
  f241 := Tryz.func187.trans (congrArg some (by kernel_rfl))
  f263 := Tryz.func184.trans (congrArg some (by kernel_rfl))
  f264 := Tryz.func185.trans (congrArg some (by kernel_rfl))
  f276 := Tryz.func211.trans (congrArg some (by kernel_rfl))
  f277 := Tryz.func212.trans (congrArg some (by kernel_rfl))
  t0 := Tryz.underlying0
  a0 := Tryz.isAgg0
  z0 := Tryz.sizeOf0
  v0 := Tryz.zeroValue0
  t3 := Tryz.underlying3
  a3 := Tryz.isAgg3
  z3 := Tryz.sizeOf3
  v3 := Tryz.zeroValue3
  t4 := Tryz.underlying4
  a4 := Tryz.isAgg4
  z4 := Tryz.sizeOf4
  v4 := Tryz.zeroValue4
  t5 := Tryz.underlying5
  a5 := Tryz.isAgg5
  z5 := Tryz.sizeOf5
  v5 := Tryz.zeroValue5
  t9 := Tryz.underlying9
  a9 := Tryz.isAgg9
  z9 := Tryz.sizeOf9
  v9 := Tryz.zeroValue9
  t20 := Tryz.underlying20
  a20 := Tryz.isAgg20
  z20 := Tryz.sizeOf20
  v20 := Tryz.zeroValue20
  t37 := Tryz.underlying81
  a37 := Tryz.isAgg81
  z37 := Tryz.sizeOf81
  v37 := Tryz.zeroValue81
  t46 := Tryz.underlying75
  a46 := Tryz.isAgg75
  z46 := Tryz.sizeOf75
  v46 := Tryz.zeroValue75
  t51 := Tryz.underlying99
  a51 := Tryz.isAgg99
  z51 := Tryz.sizeOf99
  v51 := Tryz.zeroValue99
  t53 := Tryz.underlying24
  a53 := Tryz.isAgg24
  z53 := Tryz.sizeOf24
  v53 := Tryz.zeroValue24
  t70 := Tryz.underlying147
  a70 := Tryz.isAgg147
  z70 := Tryz.sizeOf147
  v70 := Tryz.zeroValue147
  t72 := Tryz.underlying149
  a72 := Tryz.isAgg149
  z72 := Tryz.sizeOf149
  v72 := Tryz.zeroValue149
  t75 := Tryz.underlying95
  a75 := Tryz.isAgg95
  z75 := Tryz.sizeOf95
  v75 := Tryz.zeroValue95
  t76 := Tryz.underlying96
  a76 := Tryz.isAgg96
  z76 := Tryz.sizeOf96
  v76 := Tryz.zeroValue96
  t109 := Tryz.underlying145
  a109 := Tryz.isAgg145
  z109 := Tryz.sizeOf145
  v109 := Tryz.zeroValue145
  t127 := Tryz.underlying181
  a127 := Tryz.isAgg181
  z127 := Tryz.sizeOf181
  v127 := Tryz.zeroValue181
  t146 := Tryz.underlying177
  a146 := Tryz.isAgg177
  z146 := Tryz.sizeOf177
  v146 := Tryz.zeroValue177
  t148 := Tryz.underlying179
  a148 := Tryz.isAgg179
  z148 := Tryz.sizeOf179
  v148 := Tryz.zeroValue179
  t164 := Tryz.underlying200
  a164 := Tryz.isAgg200
  z164 := Tryz.sizeOf200
  v164 := Tryz.zeroValue200 }
theorem Tryz.Builder_Extra_105 : Builder.Extra Tryz.prog Tryz.lays105_ren := {
  sizeBuilder := by kernel_rfl
  liesBuilder := by kernel_rfl
  t5 := Tryz.underlying5
  a5 := Tryz.isAgg5
  z5 := Tryz.sizeOf5
  v5 := Tryz.zeroValue5
  infoByte := by kernel_rfl
  cellsByte := by kernel_rfl
  sizeByte := by kernel_rfl
  neB5 := by decide }
open Go.RowKit Go.Lib in
/-- **strings.Repeat: count ≥ 0, the result within one allocation: count copies of s.** (LAID: no walk: one application.) -/
theorem Tryz.strings_Repeat (s : ByteArray) (c : Nat) (w : World) (hc : c ≤ 9223372036854775807) (hlen : s.size * c ≤ 140737488355328) :
    Calls Tryz.prog 74 #[.string s, .int .i64 c] w fun e w' => e = .returned (.string ⟨(Lib.repeatL s.data.toList c).toArray⟩) ∧ Below w.heap.size w w' := Any.strings_Repeat Tryz.lays105 Tryz.Builder_Extra_105 s c w hc hlen
def Tryz.laysNm217_ren : Go.Shelf.Ren := ⟨fun | 17 => 119 | n => n, fun | 24 => 42 | 9 => 9 | 3 => 3 | 4 => 4 | 0 => 0 | n => n, fun | n => n⟩
theorem Tryz.laysNm217 : Go.Proofs.Lays2.n17 Tryz.prog Tryz.laysNm217_ren := {
  mixed := by kernel_rfl
  f17 := Tryz.func119.trans (congrArg some (by kernel_rfl))
  t0 := Tryz.underlying0
  a0 := Tryz.isAgg0
  z0 := Tryz.sizeOf0
  v0 := Tryz.zeroValue0
  t3 := Tryz.underlying3
  a3 := Tryz.isAgg3
  z3 := Tryz.sizeOf3
  v3 := Tryz.zeroValue3
  t4 := Tryz.underlying4
  a4 := Tryz.isAgg4
  z4 := Tryz.sizeOf4
  v4 := Tryz.zeroValue4
  t9 := Tryz.underlying9
  a9 := Tryz.isAgg9
  z9 := Tryz.sizeOf9
  v9 := Tryz.zeroValue9
  t24 := Tryz.underlying42
  a24 := Tryz.isAgg42
  z24 := Tryz.sizeOf42
  v24 := Tryz.zeroValue42 }
open Go.RowKit Go.Lib Go.Sort in
/-- slices.Reverse at []string, of an argument. (LAID: no walk: one application.) -/
theorem Tryz.slices_Reverse_string_cells (b off n c : Nat) (Sx : Nat → ByteArray) (w : World) (hbig : n ≤ 9223372036854775807) (hc : ∀ i, i < n → w.cell? ⟨b, off + i, none⟩ = some (.string (Sx i))) (hf : ∀ j, j < n → w.frozen? ⟨b, off + j, none⟩ = false) :
    Calls Tryz.prog 119 #[.slice (some ⟨b, off, none⟩) n c] w fun e w' => e = .returned (.tuple #[]) ∧ ∃ q, w' = (w.drewN q).setCells b off ((Lib.strsOf Sx n).reverse.map encStr) := Any.slices_Reverse_string_cells Tryz.laysNm217 b off n c Sx w hbig hc hf
end Go.Proofs
namespace Go.Proofs.YthbeeeclgbpopaaGreatDoor
open Go.RowKit
theorem Fr.grow (w : World) (k : Nat) (os : Array Obj) : Fr [] w (Sort.grow (w.drewN k) os) := by
  refine ⟨rfl, rfl, rfl, ?_, fun i hi _ => ?_⟩
  · show w.heap.size ≤ (w.heap ++ os).size
    simp
  · show (w.heap ++ os)[i]? = w.heap[i]?
    rw [Array.getElem?_append_left hi]
theorem TabIs.fr {P : Program} {w w' : World} {n : String} {k : IntKind} {zs : List Int} (h : Lib.TabIs P w n k zs) (hf : Fr [] w w') : Lib.TabIs P w' n k zs := by
  unfold Lib.TabIs World.var? at *
  cases hg : P.globalNamed n with
  | none => rw [hg] at h; simp at h
  | some g =>
    rw [hg] at h
    simp only [Option.bind_some] at h ⊢
    cases hb : w.heap[g]? with
    | none => rw [hb] at h; simp at h
    | some o =>
      have hlt : g < w.heap.size := (Array.getElem?_eq_some_iff.1 hb).1
      rw [hf.block g hlt (by simp), hb]
      rw [hb] at h
      exact h
theorem itoa_any (x : Nat) (hx : x ≤ 9223372036854775807) (w : World) (ht : Lib.TabIs Tryz.prog w "internal/strconv.uint64pow10" .u64 Lib.pow10Tab) :
    Calls Tryz.prog 20 #[.int .i64 (x : Int)] w fun e w' => e = .returned (strV (Lib.decDigits x)) ∧ Fr [] w w' := by
  refine Calls.mono (Tryz.strconv_Itoa (x : Int) (by omega) (by omega) w ht) ?_
  rintro e w' ⟨rfl, k, os, rfl⟩
  refine ⟨?_, Fr.grow w k os⟩
  rw [Lib.itoa, if_neg (by omega)]
  rfl
theorem repeatL_zeros (k : Nat) : Lib.repeatL [48] k = List.replicate k 48 := by
  induction k with
  | zero => rfl
  | succ k ih => rw [Lib.repeatL, ih]; rfl
theorem repeat_any (k : Nat) (hk : k ≤ 1000000) (w : World) :
    Calls Tryz.prog 74 #[.string (ByteArray.mk #[48]), .int .i64 (k : Int)] w fun e w' => e = .returned (strV (List.replicate k 48)) ∧ Fr [] w w' := by
  refine Calls.mono (Tryz.strings_Repeat (ByteArray.mk #[48]) k w (by omega) (by show 1 * k ≤ _; omega)) ?_
  rintro e w' ⟨rfl, hb⟩
  exact ⟨by rw [show (ByteArray.mk #[48]).data.toList = [48] from rfl, repeatL_zeros]; rfl, Fr.of_below hb⟩
theorem strs_back (gs : List (List UInt8)) : (gs.map fun s => (⟨s.toArray⟩ : ByteArray)).map (·.data.toList) = gs := by
  rw [List.map_map]
  conv => rhs; rw [← List.map_id gs]
  exact List.map_congr_left (fun s _ => by simp)
theorem join_flat (gs : List (List UInt8)) : Lib.join gs [] = gs.flatten := by
  unfold Lib.join
  induction gs with
  | nil => rfl
  | cons x l ih =>
    cases l with
    | nil => simp
    | cons y l => rw [List.intercalate_cons_cons, ih]; simp
theorem join_any {w : World} {g c n : Nat} (gs : List (List UInt8)) (hln : gs.length = n) (hc : ∀ (j : Nat) x, gs[j]? = some x → w.cell? ⟨g, 0 + j, none⟩ = some (strV x)) (hg : g < w.heap.size) (hn : gs.length ≤ 1000000) (hcap : gs.length ≤ c) (hl : gs.flatten.length ≤ 140737488355328) :
    Calls Tryz.prog 120 #[.slice (some ⟨g, 0, none⟩) n c, .string (ByteArray.mk #[])] w fun e w' => e = .returned (strV gs.flatten) ∧ Fr [] w w' := by
  subst hln
  have hm := strs_back gs
  have h := Tryz.strings_Join g 0 c (gs.map fun s => (⟨s.toArray⟩ : ByteArray)) (ByteArray.mk #[]) w (fun j x hx => by
    rw [List.getElem?_map] at hx
    obtain ⟨s, hs, rfl⟩ := Option.map_eq_some_iff.1 hx
    exact hc j s hs) hg (by rw [List.length_map]; omega) (by rw [List.length_map]; exact hcap) (by rw [hm, show (ByteArray.mk #[]).data.toList = [] from rfl, join_flat]; exact hl)
  rw [hm, List.length_map] at h
  refine Calls.mono h ?_
  rintro e w' ⟨rfl, hb⟩
  exact ⟨by rw [show (ByteArray.mk #[]).data.toList = [] from rfl, join_flat]; rfl, Fr.of_below hb⟩
end Go.Proofs.YthbeeeclgbpopaaGreatDoor
