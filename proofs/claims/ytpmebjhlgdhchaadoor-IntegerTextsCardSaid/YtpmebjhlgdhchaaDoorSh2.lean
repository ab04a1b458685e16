/-
  The shelf's contracts for strings and numerals (written by the kit's lay-plain), and what they say in this seat's words.
-/
import Derived.Test.YtpmebjhlgdhchaaDoorIw28
import Derived.Shelf.Strings.Builder1
import Derived.Shelf.Strings.Builder2
import Derived.Shelf.Strings.OnBuilder
import Derived.Shelf.Strings.BuilderF
import Derived.Shelf.Strconv.Itoa0
import Derived.Shelf.Strconv.Itoa1
import Derived.Shelf.LaysM
import Derived.Shelf.Strconv.Itoa2
import Derived.Shelf.Strconv.Itoa3
import Derived.Shelf.Strings.Repeat
import Derived.Ground.Names2Prog
import Derived.Shelf.Slices.ReverseS
import Derived.Shelf.Slices.Cells
namespace Go.Proofs
open Go.Shelf
set_option linter.unusedSimpArgs false
set_option linter.unusedVariables false
def Tryd.lays156_ren : Go.Shelf.Ren := ⟨fun | 156 => 81 | 165 => 95 | 166 => 96 | 169 => 98 | 240 => 111 | 241 => 112 | 276 => 120 | 277 => 121 | n => n, fun | 31 => 72 | 9 => 9 | 3 => 3 | 4 => 4 | 0 => 0 | 20 => 20 | 72 => 93 | 76 => 70 | 70 => 91 | 37 => 79 | 75 => 69 | 127 => 111 | 164 => 123 | 5 => 5 | 80 => 96 | n => n, fun | n => n⟩
theorem Tryd.lays156 : Go.Proofs.Lays.n156 Tryd.prog Tryd.lays156_ren := {
  mixed := by kernel_rfl
  f156 := Tryd.func81.trans (congrArg some (by kernel_rfl))
  f165 := Tryd.func95.trans (congrArg some (by kernel_rfl))
  f166 := Tryd.func96.trans (congrArg some (by kernel_rfl))
  f169 := Tryd.func98.trans (congrArg some (by kernel_rfl))
  f240 := Tryd.func111.trans (congrArg some (by kernel_rfl))
  f241 := Tryd.func112.trans (congrArg some (by kernel_rfl))
  f276 := Tryd.func120.trans (congrArg some (by kernel_rfl))
  f277 := Tryd.func121.trans (congrArg some (by kernel_rfl))
  t0 := Tryd.underlying0
  a0 := Tryd.isAgg0
  z0 := Tryd.sizeOf0
  v0 := Tryd.zeroValue0
  t3 := Tryd.underlying3
  a3 := Tryd.isAgg3
  z3 := Tryd.sizeOf3
  v3 := Tryd.zeroValue3
  t4 := Tryd.underlying4
  a4 := Tryd.isAgg4
  z4 := Tryd.sizeOf4
  v4 := Tryd.zeroValue4
  t9 := Tryd.underlying9
  a9 := Tryd.isAgg9
  z9 := Tryd.sizeOf9
  v9 := Tryd.zeroValue9
  t20 := Tryd.underlying20
  a20 := Tryd.isAgg20
  z20 := Tryd.sizeOf20
  v20 := Tryd.zeroValue20
  t31 := Tryd.underlying72
  a31 := Tryd.isAgg72
  z31 := Tryd.sizeOf72
  v31 := Tryd.zeroValue72
  t37 := Tryd.underlying79
  a37 := Tryd.isAgg79
  z37 := Tryd.sizeOf79
  v37 := Tryd.zeroValue79
  t70 := Tryd.underlying91
  a70 := Tryd.isAgg91
  z70 := Tryd.sizeOf91
  v70 := Tryd.zeroValue91
  t72 := Tryd.underlying93
  a72 := Tryd.isAgg93
  z72 := Tryd.sizeOf93
  v72 := Tryd.zeroValue93
  t75 := Tryd.underlying69
  a75 := Tryd.isAgg69
  z75 := Tryd.sizeOf69
  v75 := Tryd.zeroValue69
  t76 := Tryd.underlying70
  a76 := Tryd.isAgg70
  z76 := Tryd.sizeOf70
  v76 := Tryd.zeroValue70
  t127 := Tryd.underlying111
  a127 := Tryd.isAgg111
  z127 := Tryd.sizeOf111
  v127 := Tryd.zeroValue111
  t164 := Tryd.underlying123
  a164 := Tryd.isAgg123
  z164 := Tryd.sizeOf123
  v164 := Tryd.zeroValue123 }
theorem Tryd.Builder_Extra_156 : Builder.Extra Tryd.prog Tryd.lays156_ren := {
  sizeBuilder := by kernel_rfl
  liesBuilder := by kernel_rfl
  t5 := Tryd.underlying5
  a5 := Tryd.isAgg5
  z5 := Tryd.sizeOf5
  v5 := Tryd.zeroValue5
  infoByte := by kernel_rfl
  cellsByte := by kernel_rfl
  sizeByte := by kernel_rfl
  neB5 := by decide }
open Go.RowKit in
/-- strings.Join: "Join concatenates the elements of its first argument to create a single string. The separator string sep is placed between elements in the resulting string.": HOWEVER MANY ELEMENTS. Below the heap's end the world is as it was. (LAID: no walk: one application.) -/
theorem Tryd.strings_Join (bk o c : Nat) (xs : List ByteArray) (sep : ByteArray) (w : World) (hcells : ∀ (j : Nat) x, xs[j]? = some x → w.cell? ⟨bk, o + j, none⟩ = some (.string x)) (hbk : bk < w.heap.size) (hN : xs.length ≤ 140737488355328) (hcap : xs.length ≤ c) (hlen : (Lib.join (xs.map (·.data.toList)) sep.data.toList).length ≤ 140737488355328) :
    Calls Tryd.prog 81 #[.slice (some ⟨bk, o, none⟩) xs.length c, .string sep] w fun e w' => e = .returned (.string ⟨(Lib.join (xs.map (·.data.toList)) sep.data.toList).toArray⟩) ∧ Below w.heap.size w w' := Any.strings_Join Tryd.lays156 Tryd.Builder_Extra_156 bk o c xs sep w hcells hbk hN hcap hlen
def Tryd.laysM171_ren : Go.Shelf.Ren := ⟨fun | 171 => 78 | 243 => 93 | 246 => 108 | 283 => 116 | 284 => 117 | 285 => 118 | 286 => 119 | 129 => 125 | 317 => 124 | 318 => 126 | 319 => 127 | 320 => 128 | 337 => 70 | 338 => 129 | n => n, fun | 3 => 3 | 9 => 9 | 2 => 2 | 4 => 4 | 171 => 118 | 0 => 0 | 53 => 57 | 37 => 79 | 5 => 5 | 173 => 121 | 212 => 133 | 51 => 54 | 20 => 20 | 213 => 134 | 46 => 59 | 232 => 86 | 233 => 136 | n => n, fun | 17 => 3 | 18 => 0 | 19 => 5 | n => n⟩
theorem Tryd.laysM171 : Go.Proofs.LaysM.n171 Tryd.prog Tryd.laysM171_ren := {
  mixed := by kernel_rfl
  f129 := Tryd.func125.trans (congrArg some (by kernel_rfl))
  f171 := Tryd.func78.trans (congrArg some (by kernel_rfl))
  f243 := Tryd.func93.trans (congrArg some (by kernel_rfl))
  f246 := Tryd.func108.trans (congrArg some (by kernel_rfl))
  f283 := Tryd.func116.trans (congrArg some (by kernel_rfl))
  f284 := Tryd.func117.trans (congrArg some (by kernel_rfl))
  f285 := Tryd.func118.trans (congrArg some (by kernel_rfl))
  f286 := Tryd.func119.trans (congrArg some (by kernel_rfl))
  f317 := Tryd.func124.trans (congrArg some (by kernel_rfl))
  f318 := Tryd.func126.trans (congrArg some (by kernel_rfl))
  f319 := Tryd.func127.trans (congrArg some (by kernel_rfl))
  f320 := Tryd.func128.trans (congrArg some (by kernel_rfl))
  f337 := Tryd.func70.trans (congrArg some (by kernel_rfl))
  f338 := Tryd.func129.trans (congrArg some (by kernel_rfl))
  t0 := Tryd.underlying0
  a0 := Tryd.isAgg0
  z0 := Tryd.sizeOf0
  v0 := Tryd.zeroValue0
  t2 := Tryd.underlying2
  a2 := Tryd.isAgg2
  z2 := Tryd.sizeOf2
  v2 := Tryd.zeroValue2
  t3 := Tryd.underlying3
  a3 := Tryd.isAgg3
  z3 := Tryd.sizeOf3
  v3 := Tryd.zeroValue3
  t4 := Tryd.underlying4
  a4 := Tryd.isAgg4
  z4 := Tryd.sizeOf4
  v4 := Tryd.zeroValue4
  t5 := Tryd.underlying5
  a5 := Tryd.isAgg5
  z5 := Tryd.sizeOf5
  v5 := Tryd.zeroValue5
  t9 := Tryd.underlying9
  a9 := Tryd.isAgg9
  z9 := Tryd.sizeOf9
  v9 := Tryd.zeroValue9
  t20 := Tryd.underlying20
  a20 := Tryd.isAgg20
  z20 := Tryd.sizeOf20
  v20 := Tryd.zeroValue20
  t37 := Tryd.underlying79
  a37 := Tryd.isAgg79
  z37 := Tryd.sizeOf79
  v37 := Tryd.zeroValue79
  t46 := Tryd.underlying59
  a46 := Tryd.isAgg59
  z46 := Tryd.sizeOf59
  v46 := Tryd.zeroValue59
  t51 := Tryd.underlying54
  a51 := Tryd.isAgg54
  z51 := Tryd.sizeOf54
  v51 := Tryd.zeroValue54
  t53 := Tryd.underlying57
  a53 := Tryd.isAgg57
  z53 := Tryd.sizeOf57
  v53 := Tryd.zeroValue57
  t171 := Tryd.underlying118
  a171 := Tryd.isAgg118
  z171 := Tryd.sizeOf118
  v171 := Tryd.zeroValue118
  t173 := Tryd.underlying121
  a173 := Tryd.isAgg121
  z173 := Tryd.sizeOf121
  v173 := Tryd.zeroValue121
  t212 := Tryd.underlying133
  a212 := Tryd.isAgg133
  z212 := Tryd.sizeOf133
  v212 := Tryd.zeroValue133
  t213 := Tryd.underlying134
  a213 := Tryd.isAgg134
  z213 := Tryd.sizeOf134
  t232 := Tryd.underlying86
  a232 := Tryd.isAgg86
  z232 := Tryd.sizeOf86
  v232 := Tryd.zeroValue86
  t233 := Tryd.underlying136
  a233 := Tryd.isAgg136
  z233 := Tryd.sizeOf136
  v233 := Tryd.zeroValue136
  g17 := by kernel_rfl
  g18 := by kernel_rfl
  g19 := by kernel_rfl
  i0 := by kernel_rfl
  i2 := by kernel_rfl
  i3 := by kernel_rfl
  i4 := by kernel_rfl
  i5 := by kernel_rfl
  i9 := by kernel_rfl
  i20 := by kernel_rfl
  i37 := by kernel_rfl
  i46 := by kernel_rfl
  i51 := by kernel_rfl
  i53 := by kernel_rfl
  i171 := by kernel_rfl
  i173 := by kernel_rfl
  i212 := by kernel_rfl
  i232 := by kernel_rfl
  i233 := by kernel_rfl
  m17 := by kernel_rfl
  m18 := by kernel_rfl
  m19 := by kernel_rfl }
open Go.RowKit Go.Sort Go.Lib in
/-- strconv.Itoa: "Itoa is equivalent to FormatInt(int64(i), 10).": i's DECIMAL NUMERAL ('Lib.itoa': a '-' where i is negative, then the digits), FOR EVERY int. The world behind the call: the world before it, new blocks behind the heap (the library's 'var a [24]byte'), draws. (LAID: no walk: one application.) -/
theorem Tryd.strconv_Itoa (n : Int) (h0 : -9223372036854775808 ≤ n) (h1 : n ≤ 9223372036854775807) (w : World) (htab : Lib.TabIs Tryd.prog w "internal/strconv.uint64pow10" .u64 Lib.pow10Tab) :
    Calls Tryd.prog 78 #[.int .i64 n] w fun e w' => e = .returned (.string ⟨(Lib.itoa n).toArray⟩) ∧ ∃ k os, w' = grow (w.drewN k) os := Any.strconv_Itoa Tryd.laysM171 n h0 h1 w htab
def Tryd.lays105_ren : Go.Shelf.Ren := ⟨fun | 105 => 79 | 212 => 94 | 99 => 73 | 165 => 95 | 166 => 96 | 170 => 97 | 169 => 98 | 263 => 109 | 264 => 110 | 206 => 89 | 240 => 111 | 241 => 112 | 276 => 120 | 277 => 121 | n => n, fun | 9 => 9 | 3 => 3 | 4 => 4 | 20 => 20 | 0 => 0 | 46 => 59 | 109 => 89 | 5 => 5 | 72 => 93 | 76 => 70 | 51 => 54 | 146 => 107 | 53 => 57 | 148 => 109 | 70 => 91 | 37 => 79 | 75 => 69 | 127 => 111 | 164 => 123 | 80 => 96 | n => n, fun | n => n⟩
theorem Tryd.lays105 : Go.Proofs.Lays.n105 Tryd.prog Tryd.lays105_ren := {
  mixed := by kernel_rfl
  f99 := Tryd.func73.trans (congrArg some (by kernel_rfl))
  f105 := Tryd.func79.trans (congrArg some (by kernel_rfl))
  f165 := Tryd.func95.trans (congrArg some (by kernel_rfl))
  f166 := Tryd.func96.trans (congrArg some (by kernel_rfl))
  f169 := Tryd.func98.trans (congrArg some (by kernel_rfl))
  f170 := Tryd.func97.trans (congrArg some (by kernel_rfl))
  f206 := Tryd.func89.trans (congrArg some (by kernel_rfl))
  f212 := Tryd.func94.trans (congrArg some (by kernel_rfl))
  f240 := Tryd.func111.trans (congrArg some (by kernel_rfl))
  f241 := Tryd.func112.trans (congrArg some (by kernel_rfl))
  f263 := Tryd.func109.trans (congrArg some (by kernel_rfl))
  f264 := Tryd.func110.trans (congrArg some (by kernel_rfl))
  f276 := Tryd.func120.trans (congrArg some (by kernel_rfl))
  f277 := Tryd.func121.trans (congrArg some (by kernel_rfl))
  t0 := Tryd.underlying0
  a0 := Tryd.isAgg0
  z0 := Tryd.sizeOf0
  v0 := Tryd.zeroValue0
  t3 := Tryd.underlying3
  a3 := Tryd.isAgg3
  z3 := Tryd.sizeOf3
  v3 := Tryd.zeroValue3
  t4 := Tryd.underlying4
  a4 := Tryd.isAgg4
  z4 := Tryd.sizeOf4
  v4 := Tryd.zeroValue4
  t5 := Tryd.underlying5
  a5 := Tryd.isAgg5
  z5 := Tryd.sizeOf5
  v5 := Tryd.zeroValue5
  t9 := Tryd.underlying9
  a9 := Tryd.isAgg9
  z9 := Tryd.sizeOf9
  v9 := Tryd.zeroValue9
  t20 := Tryd.underlying20
  a20 := Tryd.isAgg20
  z20 := Tryd.sizeOf20
  v20 := Tryd.zeroValue20
  t37 := Tryd.underlying79
  a37 := Tryd.isAgg79
  z37 := Tryd.sizeOf79
  v37 := Tryd.zeroValue79
  t46 := Tryd.underlying59
  a46 := Tryd.isAgg59
  z46 := Tryd.sizeOf59
  v46 := Tryd.zeroValue59
  t51 := Tryd.underlying54
  a51 := Tryd.isAgg54
  z51 := Tryd.sizeOf54
  v51 := Tryd.zeroValue54
  t53 := Tryd.underlying57
  a53 := Tryd.isAgg57
  z53 := Tryd.sizeOf57
  v53 := Tryd.zeroValue57
  t70 := Tryd.underlying91
  a70 := Tryd.isAgg91
  z70 := Tryd.sizeOf91
  v70 := Tryd.zeroValue91
  t72 := Tryd.underlying93
  a72 := Tryd.isAgg93
  z72 := Tryd.sizeOf93
  v72 := Tryd.zeroValue93
  t75 := Tryd.underlying69
  a75 := Tryd.isAgg69
  z75 := Tryd.sizeOf69
  v75 := Tryd.zeroValue69
  t76 := Tryd.underlying70
  a76 := Tryd.isAgg70
  z76 := Tryd.sizeOf70
  v76 := Tryd.zeroValue70
  t109 := Tryd.underlying89
  a109 := Tryd.isAgg89
  z109 := Tryd.sizeOf89
  v109 := Tryd.zeroValue89
  t127 := Tryd.underlying111
  a127 := Tryd.isAgg111
  z127 := Tryd.sizeOf111
  v127 := Tryd.zeroValue111
  t146 := Tryd.underlying107
  a146 := Tryd.isAgg107
  z146 := Tryd.sizeOf107
  v146 := Tryd.zeroValue107
  t148 := Tryd.underlying109
  a148 := Tryd.isAgg109
  z148 := Tryd.sizeOf109
  v148 := Tryd.zeroValue109
  t164 := Tryd.underlying123
  a164 := Tryd.isAgg123
  z164 := Tryd.sizeOf123
  v164 := Tryd.zeroValue123 }
theorem Tryd.Builder_Extra_105 : Builder.Extra Tryd.prog Tryd.lays105_ren := {
  sizeBuilder := by kernel_rfl
  liesBuilder := by kernel_rfl
  t5 := Tryd.underlying5
  a5 := Tryd.isAgg5
  z5 := Tryd.sizeOf5
  v5 := Tryd.zeroValue5
  infoByte := by kernel_rfl
  cellsByte := by kernel_rfl
  sizeByte := by kernel_rfl
  neB5 := by decide }
open Go.RowKit Go.Lib in
/-- **strings.Repeat: count ≥ 0, the result within one allocation: count copies of s.** (LAID: no walk: one application.) -/
theorem Tryd.strings_Repeat (s : ByteArray) (c : Nat) (w : World) (hc : c ≤ 9223372036854775807) (hlen : s.size * c ≤ 140737488355328) :
    Calls Tryd.prog 79 #[.string s, .int .i64 c] w fun e w' => e = .returned (.string ⟨(Lib.repeatL s.data.toList c).toArray⟩) ∧ Below w.heap.size w w' := Any.strings_Repeat Tryd.lays105 Tryd.Builder_Extra_105 s c w hc hlen
def Tryd.laysNm217_ren : Go.Shelf.Ren := ⟨fun | 17 => 80 | n => n, fun | 24 => 72 | 9 => 9 | 3 => 3 | 4 => 4 | 0 => 0 | n => n, fun | n => n⟩
theorem Tryd.laysNm217 : Go.Proofs.Lays2.n17 Tryd.prog Tryd.laysNm217_ren := {
  mixed := by kernel_rfl
  f17 := Tryd.func80.trans (congrArg some (by kernel_rfl))
  t0 := Tryd.underlying0
  a0 := Tryd.isAgg0
  z0 := Tryd.sizeOf0
  v0 := Tryd.zeroValue0
  t3 := Tryd.underlying3
  a3 := Tryd.isAgg3
  z3 := Tryd.sizeOf3
  v3 := Tryd.zeroValue3
  t4 := Tryd.underlying4
  a4 := Tryd.isAgg4
  z4 := Tryd.sizeOf4
  v4 := Tryd.zeroValue4
  t9 := Tryd.underlying9
  a9 := Tryd.isAgg9
  z9 := Tryd.sizeOf9
  v9 := Tryd.zeroValue9
  t24 := Tryd.underlying72
  a24 := Tryd.isAgg72
  z24 := Tryd.sizeOf72
  v24 := Tryd.zeroValue72 }
open Go.RowKit Go.Lib Go.Sort in
/-- slices.Reverse at []string, of an argument. (LAID: no walk: one application.) -/
theorem Tryd.slices_Reverse_string_cells (b off n c : Nat) (Sx : Nat → ByteArray) (w : World) (hbig : n ≤ 9223372036854775807) (hc : ∀ i, i < n → w.cell? ⟨b, off + i, none⟩ = some (.string (Sx i))) (hf : ∀ j, j < n → w.frozen? ⟨b, off + j, none⟩ = false) :
    Calls Tryd.prog 80 #[.slice (some ⟨b, off, none⟩) n c] w fun e w' => e = .returned (.tuple #[]) ∧ ∃ q, w' = (w.drewN q).setCells b off ((Lib.strsOf Sx n).reverse.map encStr) := Any.slices_Reverse_string_cells Tryd.laysNm217 b off n c Sx w hbig hc hf
end Go.Proofs
namespace Go.Proofs.YtpmebjhlgdhchaaDoor
open Go.RowKit
theorem Fr.grow (w : World) (k : Nat) (os : Array Obj) : Fr [] w (Sort.grow (w.drewN k) os) := by
  refine ⟨rfl, rfl, rfl, ?_, fun i hi _ => ?_⟩
  · show w.heap.size ≤ (w.heap ++ os).size
    simp
  · show (w.heap ++ os)[i]? = w.heap[i]?
    rw [Array.getElem?_append_left hi]
theorem TabIs.fr {P : Program} {w w' : World} {n : String} {k : IntKind} {zs : List Int} (h : Lib.TabIs P w n k zs) (hf : Fr [] w w') : Lib.TabIs P w' n k zs := by
  unfold Lib.TabIs World.var? at *
  cases hg : P.globalNamed n with
  | none => rw [hg] at h; simp at h
  | some g =>
    rw [hg] at h
    simp only [Option.bind_some] at h ⊢
    cases hb : w.heap[g]? with
    | none => rw [hb] at h; simp at h
    | some o =>
      have hlt : g < w.heap.size := (Array.getElem?_eq_some_iff.1 hb).1
      rw [hf.block g hlt (by simp), hb]
      rw [hb] at h
      exact h
theorem itoa_any (x : Nat) (hx : x ≤ 9223372036854775807) (w : World) (ht : Lib.TabIs Tryd.prog w "internal/strconv.uint64pow10" .u64 Lib.pow10Tab) :
    Calls Tryd.prog 78 #[.int .i64 (x : Int)] w fun e w' => e = .returned (strV (Lib.decDigits x)) ∧ Fr [] w w' := by
  refine Calls.mono (Tryd.strconv_Itoa (x : Int) (by omega) (by omega) w ht) ?_
  rintro e w' ⟨rfl, k, os, rfl⟩
  refine ⟨?_, Fr.grow w k os⟩
  rw [Lib.itoa, if_neg (by omega)]
  rfl
theorem repeatL_zeros (k : Nat) : Lib.repeatL [48] k = List.replicate k 48 := by
  induction k with
  | zero => rfl
  | succ k ih => rw [Lib.repeatL, ih]; rfl
theorem repeat_any (k : Nat) (hk : k ≤ 1000000) (w : World) :
    Calls Tryd.prog 79 #[.string (ByteArray.mk #[48]), .int .i64 (k : Int)] w fun e w' => e = .returned (strV (List.replicate k 48)) ∧ Fr [] w w' := by
  refine Calls.mono (Tryd.strings_Repeat (ByteArray.mk #[48]) k w (by omega) (by show 1 * k ≤ _; omega)) ?_
  rintro e w' ⟨rfl, hb⟩
  exact ⟨by rw [show (ByteArray.mk #[48]).data.toList = [48] from rfl, repeatL_zeros]; rfl, Fr.of_below hb⟩
theorem strs_back (gs : List (List UInt8)) : (gs.map fun s => (⟨s.toArray⟩ : ByteArray)).map (·.data.toList) = gs := by
  rw [List.map_map]
  conv => rhs; rw [← List.map_id gs]
  exact List.map_congr_left (fun s _ => by simp)
theorem join_flat (gs : List (List UInt8)) : Lib.join gs [] = gs.flatten := by
  unfold Lib.join
  induction gs with
  | nil => rfl
  | cons x l ih =>
    cases l with
    | nil => simp
    | cons y l => rw [List.intercalate_cons_cons, ih]; simp
theorem join_any {w : World} {g c n : Nat} (gs : List (List UInt8)) (hln : gs.length = n) (hc : ∀ (j : Nat) x, gs[j]? = some x → w.cell? ⟨g, 0 + j, none⟩ = some (strV x)) (hg : g < w.heap.size) (hn : gs.length ≤ 1000000) (hcap : gs.length ≤ c) (hl : gs.flatten.length ≤ 140737488355328) :
    Calls Tryd.prog 81 #[.slice (some ⟨g, 0, none⟩) n c, .string (ByteArray.mk #[])] w fun e w' => e = .returned (strV gs.flatten) ∧ Fr [] w w' := by
  subst hln
  have hm := strs_back gs
  have h := Tryd.strings_Join g 0 c (gs.map fun s => (⟨s.toArray⟩ : ByteArray)) (ByteArray.mk #[]) w (fun j x hx => by
    rw [List.getElem?_map] at hx
    obtain ⟨s, hs, rfl⟩ := Option.map_eq_some_iff.1 hx
    exact hc j s hs) hg (by rw [List.length_map]; omega) (by rw [List.length_map]; exact hcap) (by rw [hm, show (ByteArray.mk #[]).data.toList = [] from rfl, join_flat]; exact hl)
  rw [hm, List.length_map] at h
  refine Calls.mono h ?_
  rintro e w' ⟨rfl, hb⟩
  exact ⟨by rw [show (ByteArray.mk #[]).data.toList = [] from rfl, join_flat]; rfl, Fr.of_below hb⟩
end Go.Proofs.YtpmebjhlgdhchaaDoor
