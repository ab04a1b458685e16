import Derived.Test.YthbeeeclgbpopaaGreatDoorYIw32
import Derived.Shelf.Strings.Builder1
import Derived.Shelf.Strings.Builder2
import Derived.Shelf.Strings.OnBuilder
import Derived.Shelf.Strings.BuilderF
import Derived.Shelf.Strconv.Itoa0
import Derived.Shelf.Strconv.Itoa1
import Derived.Shelf.LaysM
import Derived.Shelf.Strconv.Itoa2
import Derived.Shelf.Strconv.Itoa3
import Derived.Shelf.Strings.Repeat
import Derived.Ground.Names2Prog
import Derived.Shelf.Slices.ReverseS
import Derived.Shelf.Slices.Cells
import Derived.Deep.DeepCutAuto
import Derived.Deep.CutBlock
namespace Go.Proofs
open Go.Shelf
set_option linter.unusedSimpArgs false
set_option linter.unusedVariables false
def Tryz.lays156_ren : Go.Shelf.Ren := ⟨fun | 156 => 120 | 165 => 145 | 166 => 146 | 169 => 148 | 240 => 186 | 241 => 187 | 276 => 211 | 277 => 212 | n => n, fun | 31 => 42 | 9 => 9 | 3 => 3 | 4 => 4 | 0 => 0 | 20 => 20 | 72 => 149 | 76 => 96 | 70 => 147 | 37 => 81 | 75 => 95 | 127 => 181 | 164 => 200 | 5 => 5 | 80 => 152 | n => n, fun | n => n⟩
theorem Tryz.lays156 : Go.Proofs.Lays.n156 Tryz.prog Tryz.lays156_ren := {
 mixed := by kernel_rfl
 f156 := Tryz.func120.trans (congrArg some (by kernel_rfl))
 f165 := Tryz.func145.trans (congrArg some (by kernel_rfl))
 f166 := Tryz.func146.trans (congrArg some (by kernel_rfl))
 f169 := Tryz.func148.trans (congrArg some (by kernel_rfl))
 f240 := Tryz.func186.trans (congrArg some (by kernel_rfl))
 f241 := Tryz.func187.trans (congrArg some (by kernel_rfl))
 f276 := Tryz.func211.trans (congrArg some (by kernel_rfl))
 f277 := Tryz.func212.trans (congrArg some (by kernel_rfl))
 t0 := Tryz.underlying0
 a0 := Tryz.isAgg0
 z0 := Tryz.sizeOf0
 v0 := Tryz.zeroValue0
 t3 := Tryz.underlying3
 a3 := Tryz.isAgg3
 z3 := Tryz.sizeOf3
 v3 := Tryz.zeroValue3
 t4 := Tryz.underlying4
 a4 := Tryz.isAgg4
 z4 := Tryz.sizeOf4
 v4 := Tryz.zeroValue4
 t9 := Tryz.underlying9
 a9 := Tryz.isAgg9
 z9 := Tryz.sizeOf9
 v9 := Tryz.zeroValue9
 t20 := Tryz.underlying20
 a20 := Tryz.isAgg20
 z20 := Tryz.sizeOf20
 v20 := Tryz.zeroValue20
 t31 := Tryz.underlying42
 a31 := Tryz.isAgg42
 z31 := Tryz.sizeOf42
 v31 := Tryz.zeroValue42
 t37 := Tryz.underlying81
 a37 := Tryz.isAgg81
 z37 := Tryz.sizeOf81
 v37 := Tryz.zeroValue81
 t70 := Tryz.underlying147
 a70 := Tryz.isAgg147
 z70 := Tryz.sizeOf147
 v70 := Tryz.zeroValue147
 t72 := Tryz.underlying149
 a72 := Tryz.isAgg149
 z72 := Tryz.sizeOf149
 v72 := Tryz.zeroValue149
 t75 := Tryz.underlying95
 a75 := Tryz.isAgg95
 z75 := Tryz.sizeOf95
 v75 := Tryz.zeroValue95
 t76 := Tryz.underlying96
 a76 := Tryz.isAgg96
 z76 := Tryz.sizeOf96
 v76 := Tryz.zeroValue96
 t127 := Tryz.underlying181
 a127 := Tryz.isAgg181
 z127 := Tryz.sizeOf181
 v127 := Tryz.zeroValue181
 t164 := Tryz.underlying200
 a164 := Tryz.isAgg200
 z164 := Tryz.sizeOf200
 v164 := Tryz.zeroValue200 }
theorem Tryz.Builder_Extra_156 : Builder.Extra Tryz.prog Tryz.lays156_ren := {
 sizeBuilder := by kernel_rfl
 liesBuilder := by kernel_rfl
 t5 := Tryz.underlying5
 a5 := Tryz.isAgg5
 z5 := Tryz.sizeOf5
 v5 := Tryz.zeroValue5
 infoByte := by kernel_rfl
 cellsByte := by kernel_rfl
 sizeByte := by kernel_rfl
 neB5 := by decide }
open Go.RowKit in
theorem Tryz.strings_Join (bk o c : Nat) (xs : List ByteArray) (sep : ByteArray) (w : World) (hcells : ∀ (j : Nat) x, xs[j]? = some x → w.cell? ⟨bk, o + j, none⟩ = some (.string x)) (hbk : bk < w.heap.size) (hN : xs.length ≤ 140737488355328) (hcap : xs.length ≤ c) (hlen : (Lib.join (xs.map (·.data.toList)) sep.data.toList).length ≤ 140737488355328) :
  Calls Tryz.prog 120 #[.slice (some ⟨bk, o, none⟩) xs.length c, .string sep] w fun e w' => e = .returned (.string ⟨(Lib.join (xs.map (·.data.toList)) sep.data.toList).toArray⟩) ∧ Below w.heap.size w w' := Any.strings_Join Tryz.lays156 Tryz.Builder_Extra_156 bk o c xs sep w hcells hbk hN hcap hlen
def Tryz.laysM171_ren : Go.Shelf.Ren := ⟨fun | 171 => 20 | 243 => 55 | 246 => 124 | 283 => 175 | 284 => 176 | 285 => 177 | 286 => 178 | 129 => 206 | 317 => 205 | 318 => 207 | 319 => 208 | 320 => 209 | 337 => 136 | 338 => 225 | n => n, fun | 3 => 3 | 9 => 9 | 2 => 2 | 4 => 4 | 171 => 167 | 0 => 0 | 53 => 24 | 37 => 81 | 5 => 5 | 173 => 170 | 212 => 196 | 51 => 99 | 20 => 20 | 213 => 197 | 46 => 75 | 232 => 173 | 233 => 220 | n => n, fun | 17 => 1 | 18 => 0 | 19 => 7 | n => n⟩
theorem Tryz.laysM171 : Go.Proofs.LaysM.n171 Tryz.prog Tryz.laysM171_ren := {
 mixed := by kernel_rfl
 f129 := Tryz.func206.trans (congrArg some (by kernel_rfl))
 f171 := Tryz.func20.trans (congrArg some (by kernel_rfl))
 f243 := Tryz.func55.trans (congrArg some (by kernel_rfl))
 f246 := Tryz.func124.trans (congrArg some (by kernel_rfl))
 f283 := Tryz.func175.trans (congrArg some (by kernel_rfl))
 f284 := Tryz.func176.trans (congrArg some (by kernel_rfl))
 f285 := Tryz.func177.trans (congrArg some (by kernel_rfl))
 f286 := Tryz.func178.trans (congrArg some (by kernel_rfl))
 f317 := Tryz.func205.trans (congrArg some (by kernel_rfl))
 f318 := Tryz.func207.trans (congrArg some (by kernel_rfl))
 f319 := Tryz.func208.trans (congrArg some (by kernel_rfl))
 f320 := Tryz.func209.trans (congrArg some (by kernel_rfl))
 f337 := Tryz.func136.trans (congrArg some (by kernel_rfl))
 f338 := Tryz.func225.trans (congrArg some (by kernel_rfl))
 t0 := Tryz.underlying0
 a0 := Tryz.isAgg0
 z0 := Tryz.sizeOf0
 v0 := Tryz.zeroValue0
 t2 := Tryz.underlying2
 a2 := Tryz.isAgg2
 z2 := Tryz.sizeOf2
 v2 := Tryz.zeroValue2
 t3 := Tryz.underlying3
 a3 := Tryz.isAgg3
 z3 := Tryz.sizeOf3
 v3 := Tryz.zeroValue3
 t4 := Tryz.underlying4
 a4 := Tryz.isAgg4
 z4 := Tryz.sizeOf4
 v4 := Tryz.zeroValue4
 t5 := Tryz.underlying5
 a5 := Tryz.isAgg5
 z5 := Tryz.sizeOf5
 v5 := Tryz.zeroValue5
 t9 := Tryz.underlying9
 a9 := Tryz.isAgg9
 z9 := Tryz.sizeOf9
 v9 := Tryz.zeroValue9
 t20 := Tryz.underlying20
 a20 := Tryz.isAgg20
 z20 := Tryz.sizeOf20
 v20 := Tryz.zeroValue20
 t37 := Tryz.underlying81
 a37 := Tryz.isAgg81
 z37 := Tryz.sizeOf81
 v37 := Tryz.zeroValue81
 t46 := Tryz.underlying75
 a46 := Tryz.isAgg75
 z46 := Tryz.sizeOf75
 v46 := Tryz.zeroValue75
 t51 := Tryz.underlying99
 a51 := Tryz.isAgg99
 z51 := Tryz.sizeOf99
 v51 := Tryz.zeroValue99
 t53 := Tryz.underlying24
 a53 := Tryz.isAgg24
 z53 := Tryz.sizeOf24
 v53 := Tryz.zeroValue24
 t171 := Tryz.underlying167
 a171 := Tryz.isAgg167
 z171 := Tryz.sizeOf167
 v171 := Tryz.zeroValue167
 t173 := Tryz.underlying170
 a173 := Tryz.isAgg170
 z173 := Tryz.sizeOf170
 v173 := Tryz.zeroValue170
 t212 := Tryz.underlying196
 a212 := Tryz.isAgg196
 z212 := Tryz.sizeOf196
 v212 := Tryz.zeroValue196
 t213 := Tryz.underlying197
 a213 := Tryz.isAgg197
 z213 := Tryz.sizeOf197
 t232 := Tryz.underlying173
 a232 := Tryz.isAgg173
 z232 := Tryz.sizeOf173
 v232 := Tryz.zeroValue173
 t233 := Tryz.underlying220
 a233 := Tryz.isAgg220
 z233 := Tryz.sizeOf220
 v233 := Tryz.zeroValue220
 g17 := by kernel_rfl
 g18 := by kernel_rfl
 g19 := by kernel_rfl
 i0 := by kernel_rfl
 i2 := by kernel_rfl
 i3 := by kernel_rfl
 i4 := by kernel_rfl
 i5 := by kernel_rfl
 i9 := by kernel_rfl
 i20 := by kernel_rfl
 i37 := by kernel_rfl
 i46 := by kernel_rfl
 i51 := by kernel_rfl
 i53 := by kernel_rfl
 i171 := by kernel_rfl
 i173 := by kernel_rfl
 i212 := by kernel_rfl
 i232 := by kernel_rfl
 i233 := by kernel_rfl
 m17 := by kernel_rfl
 m18 := by kernel_rfl
 m19 := by kernel_rfl }
open Go.RowKit Go.Sort Go.Lib in
theorem Tryz.strconv_Itoa (n : Int) (h0 : -9223372036854775808 ≤ n) (h1 : n ≤ 9223372036854775807) (w : World) (htab : Lib.TabIs Tryz.prog w "internal/strconv.uint64pow10" .u64 Lib.pow10Tab) :
  Calls Tryz.prog 20 #[.int .i64 n] w fun e w' => e = .returned (.string ⟨(Lib.itoa n).toArray⟩) ∧ ∃ k os, w' = grow (w.drewN k) os := Any.strconv_Itoa Tryz.laysM171 n h0 h1 w htab
def Tryz.lays105_ren : Go.Shelf.Ren := ⟨fun | 105 => 74 | 212 => 144 | 99 => 77 | 165 => 145 | 166 => 146 | 170 => 147 | 169 => 148 | 263 => 184 | 264 => 185 | 206 => 150 | 240 => 186 | 241 => 187 | 276 => 211 | 277 => 212 | n => n, fun | 9 => 9 | 3 => 3 | 4 => 4 | 20 => 20 | 0 => 0 | 46 => 75 | 109 => 145 | 5 => 5 | 72 => 149 | 76 => 96 | 51 => 99 | 146 => 177 | 53 => 24 | 148 => 179 | 70 => 147 | 37 => 81 | 75 => 95 | 127 => 181 | 164 => 200 | 80 => 152 | n => n, fun | n => n⟩
theorem Tryz.lays105 : Go.Proofs.Lays.n105 Tryz.prog Tryz.lays105_ren := {
 mixed := by kernel_rfl
 f99 := Tryz.func77.trans (congrArg some (by kernel_rfl))
 f105 := Tryz.func74.trans (congrArg some (by kernel_rfl))
 f165 := Tryz.func145.trans (congrArg some (by kernel_rfl))
 f166 := Tryz.func146.trans (congrArg some (by kernel_rfl))
 f169 := Tryz.func148.trans (congrArg some (by kernel_rfl))
 f170 := Tryz.func147.trans (congrArg some (by kernel_rfl))
 f206 := Tryz.func150.trans (congrArg some (by kernel_rfl))
 f212 := Tryz.func144.trans (congrArg some (by kernel_rfl))
 f240 := Tryz.func186.trans (congrArg some (by kernel_rfl))
 f241 := Tryz.func187.trans (congrArg some (by kernel_rfl))
 f263 := Tryz.func184.trans (congrArg some (by kernel_rfl))
 f264 := Tryz.func185.trans (congrArg some (by kernel_rfl))
 f276 := Tryz.func211.trans (congrArg some (by kernel_rfl))
 f277 := Tryz.func212.trans (congrArg some (by kernel_rfl))
 t0 := Tryz.underlying0
 a0 := Tryz.isAgg0
 z0 := Tryz.sizeOf0
 v0 := Tryz.zeroValue0
 t3 := Tryz.underlying3
 a3 := Tryz.isAgg3
 z3 := Tryz.sizeOf3
 v3 := Tryz.zeroValue3
 t4 := Tryz.underlying4
 a4 := Tryz.isAgg4
 z4 := Tryz.sizeOf4
 v4 := Tryz.zeroValue4
 t5 := Tryz.underlying5
 a5 := Tryz.isAgg5
 z5 := Tryz.sizeOf5
 v5 := Tryz.zeroValue5
 t9 := Tryz.underlying9
 a9 := Tryz.isAgg9
 z9 := Tryz.sizeOf9
 v9 := Tryz.zeroValue9
 t20 := Tryz.underlying20
 a20 := Tryz.isAgg20
 z20 := Tryz.sizeOf20
 v20 := Tryz.zeroValue20
 t37 := Tryz.underlying81
 a37 := Tryz.isAgg81
 z37 := Tryz.sizeOf81
 v37 := Tryz.zeroValue81
 t46 := Tryz.underlying75
 a46 := Tryz.isAgg75
 z46 := Tryz.sizeOf75
 v46 := Tryz.zeroValue75
 t51 := Tryz.underlying99
 a51 := Tryz.isAgg99
 z51 := Tryz.sizeOf99
 v51 := Tryz.zeroValue99
 t53 := Tryz.underlying24
 a53 := Tryz.isAgg24
 z53 := Tryz.sizeOf24
 v53 := Tryz.zeroValue24
 t70 := Tryz.underlying147
 a70 := Tryz.isAgg147
 z70 := Tryz.sizeOf147
 v70 := Tryz.zeroValue147
 t72 := Tryz.underlying149
 a72 := Tryz.isAgg149
 z72 := Tryz.sizeOf149
 v72 := Tryz.zeroValue149
 t75 := Tryz.underlying95
 a75 := Tryz.isAgg95
 z75 := Tryz.sizeOf95
 v75 := Tryz.zeroValue95
 t76 := Tryz.underlying96
 a76 := Tryz.isAgg96
 z76 := Tryz.sizeOf96
 v76 := Tryz.zeroValue96
 t109 := Tryz.underlying145
 a109 := Tryz.isAgg145
 z109 := Tryz.sizeOf145
 v109 := Tryz.zeroValue145
 t127 := Tryz.underlying181
 a127 := Tryz.isAgg181
 z127 := Tryz.sizeOf181
 v127 := Tryz.zeroValue181
 t146 := Tryz.underlying177
 a146 := Tryz.isAgg177
 z146 := Tryz.sizeOf177
 v146 := Tryz.zeroValue177
 t148 := Tryz.underlying179
 a148 := Tryz.isAgg179
 z148 := Tryz.sizeOf179
 v148 := Tryz.zeroValue179
 t164 := Tryz.underlying200
 a164 := Tryz.isAgg200
 z164 := Tryz.sizeOf200
 v164 := Tryz.zeroValue200 }
theorem Tryz.Builder_Extra_105 : Builder.Extra Tryz.prog Tryz.lays105_ren := {
 sizeBuilder := by kernel_rfl
 liesBuilder := by kernel_rfl
 t5 := Tryz.underlying5
 a5 := Tryz.isAgg5
 z5 := Tryz.sizeOf5
 v5 := Tryz.zeroValue5
 infoByte := by kernel_rfl
 cellsByte := by kernel_rfl
 sizeByte := by kernel_rfl
 neB5 := by decide }
open Go.RowKit Go.Lib in
theorem Tryz.strings_Repeat (s : ByteArray) (c : Nat) (w : World) (hc : c ≤ 9223372036854775807) (hlen : s.size * c ≤ 140737488355328) :
  Calls Tryz.prog 74 #[.string s, .int .i64 c] w fun e w' => e = .returned (.string ⟨(Lib.repeatL s.data.toList c).toArray⟩) ∧ Below w.heap.size w w' := Any.strings_Repeat Tryz.lays105 Tryz.Builder_Extra_105 s c w hc hlen
def Tryz.laysNm217_ren : Go.Shelf.Ren := ⟨fun | 17 => 119 | n => n, fun | 24 => 42 | 9 => 9 | 3 => 3 | 4 => 4 | 0 => 0 | n => n, fun | n => n⟩
theorem Tryz.laysNm217 : Go.Proofs.Lays2.n17 Tryz.prog Tryz.laysNm217_ren := {
 mixed := by kernel_rfl
 f17 := Tryz.func119.trans (congrArg some (by kernel_rfl))
 t0 := Tryz.underlying0
 a0 := Tryz.isAgg0
 z0 := Tryz.sizeOf0
 v0 := Tryz.zeroValue0
 t3 := Tryz.underlying3
 a3 := Tryz.isAgg3
 z3 := Tryz.sizeOf3
 v3 := Tryz.zeroValue3
 t4 := Tryz.underlying4
 a4 := Tryz.isAgg4
 z4 := Tryz.sizeOf4
 v4 := Tryz.zeroValue4
 t9 := Tryz.underlying9
 a9 := Tryz.isAgg9
 z9 := Tryz.sizeOf9
 v9 := Tryz.zeroValue9
 t24 := Tryz.underlying42
 a24 := Tryz.isAgg42
 z24 := Tryz.sizeOf42
 v24 := Tryz.zeroValue42 }
open Go.RowKit Go.Lib Go.Sort in
theorem Tryz.slices_Reverse_string_cells (b off n c : Nat) (Sx : Nat → ByteArray) (w : World) (hbig : n ≤ 9223372036854775807) (hc : ∀ i, i < n → w.cell? ⟨b, off + i, none⟩ = some (.string (Sx i))) (hf : ∀ j, j < n → w.frozen? ⟨b, off + j, none⟩ = false) :
  Calls Tryz.prog 119 #[.slice (some ⟨b, off, none⟩) n c] w fun e w' => e = .returned (.tuple #[]) ∧ ∃ q, w' = (w.drewN q).setCells b off ((Lib.strsOf Sx n).reverse.map encStr) := Any.slices_Reverse_string_cells Tryz.laysNm217 b off n c Sx w hbig hc hf
end Go.Proofs
namespace Go.Proofs.YthbeeeclgbpopaaGreatDoor
open Go.RowKit
theorem Fr.grow (w : World) (k : Nat) (os : Array Obj) : Fr [] w (Sort.grow (w.drewN k) os) := by
 refine ⟨rfl, rfl, rfl, ?_, fun i hi _ => ?_⟩
 ·show w.heap.size ≤ (w.heap ++ os).size
  simp
 ·show (w.heap ++ os)[i]? = w.heap[i]?
  rw [Array.getElem?_append_left hi]
theorem TabIs.fr {P : Program} {w w' : World} {n : String} {k : IntKind} {zs : List Int} (h : Lib.TabIs P w n k zs) (hf : Fr [] w w') : Lib.TabIs P w' n k zs := by
 unfold Lib.TabIs World.var? at *
 cases hg : P.globalNamed n with
 | none => rw [hg] at h; simp at h
 | some g =>
  rw [hg] at h
  simp only [Option.bind_some] at h ⊢
  cases hb : w.heap[g]? with
  | none => rw [hb] at h; simp at h
  | some o =>
   have hlt : g < w.heap.size := (Array.getElem?_eq_some_iff.1 hb).1
   rw [hf.block g hlt (by simp), hb]
   rw [hb] at h
   exact h
theorem itoa_any (x : Nat) (hx : x ≤ 9223372036854775807) (w : World) (ht : Lib.TabIs Tryz.prog w "internal/strconv.uint64pow10" .u64 Lib.pow10Tab) :
  Calls Tryz.prog 20 #[.int .i64 (x : Int)] w fun e w' => e = .returned (strV (Lib.decDigits x)) ∧ Fr [] w w' := by
 refine Calls.mono (Tryz.strconv_Itoa (x : Int) (by omega) (by omega) w ht) ?_
 rintro e w' ⟨rfl, k, os, rfl⟩
 refine ⟨?_, Fr.grow w k os⟩
 rw [Lib.itoa, if_neg (by omega)]
 rfl
theorem repeatL_zeros (k : Nat) : Lib.repeatL [48] k = List.replicate k 48 := by
 induction k with
 | zero => rfl
 | succ k ih => rw [Lib.repeatL, ih]; rfl
theorem repeat_any (k : Nat) (hk : k ≤ 1000000) (w : World) :
  Calls Tryz.prog 74 #[.string (ByteArray.mk #[48]), .int .i64 (k : Int)] w fun e w' => e = .returned (strV (List.replicate k 48)) ∧ Fr [] w w' := by
 refine Calls.mono (Tryz.strings_Repeat (ByteArray.mk #[48]) k w (by omega) (by show 1 * k ≤ _; omega)) ?_
 rintro e w' ⟨rfl, hb⟩
 exact ⟨by rw [show (ByteArray.mk #[48]).data.toList = [48] from rfl, repeatL_zeros]; rfl, Fr.of_below hb⟩
theorem strs_back (gs : List (List UInt8)) : (gs.map fun s => (⟨s.toArray⟩ : ByteArray)).map (·.data.toList) = gs := by
 rw [List.map_map]
 conv => rhs; rw [← List.map_id gs]
 exact List.map_congr_left (fun s _ => by simp)
theorem join_flat (gs : List (List UInt8)) : Lib.join gs [] = gs.flatten := by
 unfold Lib.join
 induction gs with
 | nil => rfl
 | cons x l ih =>
  cases l with
  | nil => simp
  | cons y l => rw [List.intercalate_cons_cons, ih]; simp
theorem join_any {w : World} {g c n : Nat} (gs : List (List UInt8)) (hln : gs.length = n) (hc : ∀ (j : Nat) x, gs[j]? = some x → w.cell? ⟨g, 0 + j, none⟩ = some (strV x)) (hg : g < w.heap.size) (hn : gs.length ≤ 1000000) (hcap : gs.length ≤ c) (hl : gs.flatten.length ≤ 140737488355328) :
  Calls Tryz.prog 120 #[.slice (some ⟨g, 0, none⟩) n c, .string (ByteArray.mk #[])] w fun e w' => e = .returned (strV gs.flatten) ∧ Fr [] w w' := by
 subst hln
 have hm := strs_back gs
 have h := Tryz.strings_Join g 0 c (gs.map fun s => (⟨s.toArray⟩ : ByteArray)) (ByteArray.mk #[]) w (fun j x hx => by
  rw [List.getElem?_map] at hx
  obtain ⟨s, hs, rfl⟩ := Option.map_eq_some_iff.1 hx
  exact hc j s hs) hg (by rw [List.length_map]; omega) (by rw [List.length_map]; exact hcap) (by rw [hm, show (ByteArray.mk #[]).data.toList = [] from rfl, join_flat]; exact hl)
 rw [hm, List.length_map] at h
 refine Calls.mono h ?_
 rintro e w' ⟨rfl, hb⟩
 exact ⟨by rw [show (ByteArray.mk #[]).data.toList = [] from rfl, join_flat]; rfl, Fr.of_below hb⟩
end Go.Proofs.YthbeeeclgbpopaaGreatDoor
namespace Go.Proofs.YthbeeeclgbpopaaGreatDoor
open Go.RowKit
set_option linter.unusedSimpArgs false
set_option linter.unusedVariables false
abbrev dec (n : Nat) : List UInt8 := Lib.decDigits n
theorem dec_small {n : Nat} (h : n < 10) : dec n = [UInt8.ofNat (48 + n)] := by unfold dec; rw [Lib.decDigits, dif_pos h]
theorem dec_ten {n : Nat} (h : 10 ≤ n) : dec n = dec (n / 10) ++ [UInt8.ofNat (48 + n % 10)] := by unfold dec; rw [Lib.decDigits, dif_neg (by omega)]
def padk : Nat → Nat → List UInt8
 | 0, _ => []
 | k + 1, r => padk k (r / 10) ++ [UInt8.ofNat (48 + r % 10)]
theorem dec_join {q : Nat} (hq : 0 < q) : ∀ (k r : Nat), r < 10 ^ k → dec (q * 10 ^ k + r) = dec q ++ padk k r
 | 0, r, h => by
  have : r = 0 := by simpa using h
  subst this
  simp [padk]
 | k + 1, r, h => by
  have hp : 1 ≤ 10 ^ k := Nat.one_le_pow _ _ (by decide)
  have h1 : 1 * (10 ^ k * 10) ≤ q * (10 ^ k * 10) := Nat.mul_le_mul_right _ hq
  rw [Nat.pow_succ] at h ⊢
  have e : q * (10 ^ k * 10) + r = 10 * (q * 10 ^ k + r / 10) + r % 10 := by
   rw [Nat.mul_add, Nat.mul_comm (10 ^ k), Nat.mul_left_comm]
   omega
  generalize hQ : q * 10 ^ k = Q at e
  have e1 : (q * (10 ^ k * 10) + r) / 10 = q * 10 ^ k + r / 10 := by rw [e, hQ]; omega
  have e2 : (q * (10 ^ k * 10) + r) % 10 = r % 10 := by rw [e]; omega
  rw [dec_ten (by omega), e1, e2, padk, ← List.append_assoc, ← dec_join hq k (r / 10) (by omega)]
theorem padk_eq : ∀ (k r : Nat), r < 10 ^ (k + 1) → (dec r).length ≤ k + 1 ∧ padk (k + 1) r = List.replicate (k + 1 - (dec r).length) 48 ++ dec r
 | 0, r, h => by
  have h : r < 10 := by simpa using h
  rw [dec_small h]
  refine ⟨by simp, ?_⟩
  simp [padk, Nat.mod_eq_of_lt h]
 | k + 1, r, h => by
  by_cases h10 : r < 10
  ·rw [dec_small h10]
   refine ⟨by simp, ?_⟩
   have h0 := (padk_eq k 0 (Nat.pow_pos (by decide))).2
   rw [padk, show r / 10 = 0 by omega, h0, dec_small (by decide), Nat.mod_eq_of_lt h10]
   simp only [List.length_cons, List.length_nil, Nat.add_sub_cancel, Nat.zero_add]
   rw [show UInt8.ofNat 48 = 48 from rfl, show k + 1 = k + 1 from rfl, List.replicate_succ']
  ·rw [Nat.pow_succ] at h
   obtain ⟨h1, h2⟩ := padk_eq k (r / 10) (by omega)
   rw [dec_ten (by omega)]
   refine ⟨by simp only [List.length_append, List.length_cons, List.length_nil]; omega, ?_⟩
   rw [padk, h2]
   simp only [List.length_append, List.length_cons, List.length_nil, List.append_assoc]
   rw [show k + 1 + 1 - ((dec (r / 10)).length + (0 + 1)) = k + 1 - (dec (r / 10)).length by omega]
def pad9 (r : Nat) : List UInt8 := List.replicate (9 - (dec r).length) 48 ++ dec r
theorem dec_len9 {r : Nat} (h : r < 1000000000) : (dec r).length ≤ 9 := (padk_eq 8 r (by simpa using h)).1
theorem dec_group {q r : Nat} (hq : 0 < q) (h : r < 1000000000) : dec (q * 1000000000 + r) = dec q ++ pad9 r := by
 have h1 := dec_join hq 9 r (by simpa using h)
 rw [(padk_eq 8 r (by simpa using h)).2] at h1
 exact h1
theorem pad9_len {r : Nat} (h : r < 1000000000) : (pad9 r).length = 9 := by
 have := dec_len9 h
 unfold pad9
 rw [List.length_append, List.length_replicate]
 omega
structure Dg (N n X : Nat) (gs : List (List UInt8)) : Prop where
 len : gs.length ≤ 32 * n
 one : ∀ g ∈ gs, g.length ≤ 9
 x : X = N / 1000000000 ^ gs.length
 nz : gs ≠ [] → N ≠ 0
 d : dec N = (if X = 0 ∧ gs ≠ [] then [] else dec X) ++ gs.reverse.flatten
theorem Dg.start (N n : Nat) : Dg N n N [] := ⟨by simp, fun g hg => (by cases hg), by simp, fun h => absurd rfl h, by simp⟩
def grp (X : Nat) : List UInt8 := if X / 1000000000 = 0 then dec (X % 1000000000) else pad9 (X % 1000000000)
theorem pow9_ge (k : Nat) : 2 ^ k ≤ 1000000000 ^ k := Nat.pow_le_pow_left (by decide) k
theorem Dg.next {N n X : Nat} {gs : List (List UInt8)} (h : Dg N n X gs) (hN : N < 4294967296 ^ n) (hX : X ≠ 0) : Dg N n (X / 1000000000) (gs ++ [grp X]) := by
 have hN0 : N ≠ 0 := fun e => by have := h.x; rw [e, Nat.zero_div] at this; exact hX this
 have hr : X % 1000000000 < 1000000000 := Nat.mod_lt _ (by decide)
 refine ⟨?_, ?_, ?_, fun _ => hN0, ?_⟩
 ·have h1 : 1000000000 ^ gs.length ≤ N := by
   apply Classical.byContradiction
   intro hn
   have := h.x
   rw [Nat.div_eq_of_lt (by omega)] at this
   exact hX this
  have h2 := pow9_ge gs.length
  rw [powB] at hN
  have h3 : 2 ^ gs.length < 2 ^ (32 * n) := by omega
  have h4 := (Nat.pow_lt_pow_iff_right (show 1 < 2 by decide)).1 h3
  rw [List.length_append, List.length_cons, List.length_nil]
  omega
 ·intro g hg
  rcases List.mem_append.1 hg with h1 | h1
  ·exact h.one g h1
  ·simp only [List.mem_singleton] at h1
   subst h1
   unfold grp
   split
   ·exact dec_len9 hr
   ·exact Nat.le_of_eq (pad9_len hr)
 ·rw [List.length_append, List.length_cons, List.length_nil, Nat.pow_succ, ← Nat.div_div_eq_div_mul, ← h.x]
 ·rw [h.d, if_neg (fun e => hX e.1), List.reverse_append, List.reverse_singleton, List.singleton_append, List.flatten_cons, ← List.append_assoc]
  congr 1
  unfold grp
  by_cases hq : X / 1000000000 = 0
  ·rw [if_pos ⟨hq, by simp⟩, if_pos hq, List.nil_append]
   congr 1
   omega
  ·rw [if_neg (fun e => hq e.1), if_neg hq, ← dec_group (by omega) hr]
   congr 1
   omega
theorem Dg.bytes {N n X : Nat} {gs : List (List UInt8)} (h : Dg N n X gs) : gs.flatten.length ≤ 9 * gs.length := by
 have : ∀ (l : List (List UInt8)), (∀ g ∈ l, g.length ≤ 9) → l.flatten.length ≤ 9 * l.length := by
  intro l
  induction l with
  | nil => intro _; simp
  | cons a l ih =>
   intro h
   have h1 := ih (fun g hg => h g (List.mem_cons_of_mem _ hg))
   have h2 := h a List.mem_cons_self
   rw [List.flatten_cons, List.length_append, List.length_cons]
   omega
 exact this gs h.one
theorem Fr.setCells (b : Nat) : ∀ (vs : List Value) (o : Nat) (w : World), Fr [b] w (w.setCells b o vs)
 | [], _, _ => Fr.refl _ _
 | v :: vs, o, w => by
  rw [World.setCells]
  refine Fr.trans ?_ (Fr.setCells b vs (o + 1) _)
  exact ⟨rfl, rfl, rfl, by simp, fun k hk hn => Below.heap_setCell w _ v k (by simpa using hn)⟩
theorem reverse_any {w : World} {g c n : Nat} {e : TypeId} (gs : List (List UInt8)) (pad : List Value) (hln : gs.length = n) (hg : w.heap[g]? = some (.cells ((gs.map strV) ++ pad).toArray e (0, 0))) (hn : gs.length ≤ 1000000) :
  Calls Tryz.prog 119 #[.slice (some ⟨g, 0, none⟩) n c] w fun e w' => e = .returned (.tuple #[]) ∧ Fr [g] w w' ∧ g < w'.heap.size ∧ ∀ (j : Nat) x, gs.reverse[j]? = some x → w'.cell? ⟨g, 0 + j, none⟩ = some (strV x) := by
 subst hln
 have hS : Lib.strsOf (fun i => ⟨(gs.getD i []).toArray⟩) gs.length = gs := by
  unfold Lib.strsOf
  apply List.ext_getElem
  ·simp
  ·intro i h1 h2
   simp [List.getD, List.getElem?_eq_getElem h2]
 have hc : ∀ i, i < gs.length → w.cell? ⟨g, 0 + i, none⟩ = some (strV (gs.getD i [])) := by
  intro i hi
  rw [cell_of_row w g _ _ _ _ hg, Nat.zero_add]
  simp [List.getElem?_append_left, hi, List.getD, List.getElem?_eq_getElem hi]
 refine Calls.mono (Tryz.slices_Reverse_string_cells g 0 gs.length c (fun i => ⟨(gs.getD i []).toArray⟩) w (by omega) hc (fun j _ => frozen_of_row w g _ _ _ hg)) ?_
 rintro e w' ⟨rfl, q, rfl⟩
 rw [hS]
 have hF : Fr [g] w ((w.drewN q).setCells g 0 (gs.reverse.map encStr)) := (⟨rfl, rfl, rfl, Nat.le_refl _, fun _ _ _ => rfl⟩ : Fr [g] w (w.drewN q)).trans (Fr.setCells g _ _ _)
 refine ⟨rfl, hF, Nat.lt_of_lt_of_le (Array.getElem?_eq_some_iff.1 hg).1 hF.size, fun j x hx => ?_⟩
 have hj := (List.getElem?_eq_some_iff.1 hx).1
 have h1 := World.cell?_setCells_in g (gs.reverse.map encStr) 0 (w.drewN q) (fun i hi => by
  have h2 := hc i (by simpa using hi)
  show (w.cell? _).isSome = true
  rw [h2]; rfl) j (by simpa using hj)
 rw [h1]
 simp only [List.getElem_map]
 have h3 := (List.getElem?_eq_some_iff.1 hx).2
 rw [h3]
 rfl
section
variable {P : Program} {w : World} {a : Act} {o : Oper}
theorem ev_strAdd {t t' : TypeId} {x y : Operand} (ho : o.op = .binOp .add t x y t') {s r : List UInt8} (hx : a.eval x = strV s) (hy : a.eval y = strV r) (hl : s.length + r.length ≤ 1000000000) : (execOp a.eval o).run P w = .ok (.value (strV (s ++ r))) w := by
 have e1 : (eqGuard .add t x y (strV s) (strV r)).run P w = .ok () w := by unfold eqGuard; simp
 unfold execOp
 simp only [ho, hx, hy, Sem.run_bind, e1, Result.andThen_ok, binOp]
 have e : (⟨s.toArray⟩ : ByteArray) ++ ⟨r.toArray⟩ = ⟨(s ++ r).toArray⟩ := by
  apply ByteArray.ext
  simp [ByteArray.data_append]
 have e2 : (Op.stringOp .add ⟨s.toArray⟩ ⟨r.toArray⟩).run P w = .ok (strV (s ++ r)) w := by
  unfold Op.stringOp
  have hn : ¬ (((ByteArray.mk s.toArray).size + (ByteArray.mk r.toArray).size : Nat) : Int) > IntKind.i64.max := by
   show ¬ (((s.toArray.size + r.toArray.size : Nat) : Int) > 9223372036854775807)
   simp only [List.size_toArray]
   omega
  simp only [if_neg hn, e]
  rfl
 show ((Op.stringOp .add ⟨s.toArray⟩ ⟨r.toArray⟩).run P w).andThen _ = _
 rw [e2]
 rfl
end
end Go.Proofs.YthbeeeclgbpopaaGreatDoor
namespace Go.Proofs.YthbeeeclgbpopaaGreatDoor
open Go.RowKit
set_option linter.unusedSimpArgs false
set_option linter.unusedVariables false
set_option maxHeartbeats 4000000
set_option maxRecDepth 100000
set_option maxHeartbeats 8000000 in
theorem short_new {w : World} {p : Option Addr} {n c : Nat} (a : List Nat) (dv : Nat) (hn : a.length = n) (hn0 : n ≤ 1000000) (h : LR w p c a) (hd0 : 0 < dv) (hdB : dv < 4294967296) :
  Calls Tryz.prog 118 #[.slice p n c, .int .u32 (dv : Int)] w fun e w' => ∃ p' c', e = .returned (.tuple #[.slice p' (digs (val a / dv)).length c', .int .u32 ((val a % dv : Nat) : Int)]) ∧ Fr [] w w' ∧ LR w' p' c' (digs (val a / dv)) ∧ ∀ b off, p' = some ⟨b, off, none⟩ → w.heap.size ≤ b := by
 subst hn
 have Hh := hid h
 clear h
 have H := Hp.start [] w
 go_enter Tryz.func118, Tryz.ntmps118
 go_wp2_with (revert H; refine x_g ?_; intro g w1 hg hf H; (try clear hf))
 rw [show ((a.length : Int)).toNat = a.length by omega, zeros_limbs] at H
 go_loopw [7, 8] (fun s7 s8 wr => ∃ (i r : Nat) (o : List Nat), i ≤ a.length ∧ s7 = .int .u64 r ∧ s8 = .int .i64 ((i : Int) - 1) ∧ r < dv ∧ Hid (o.length = a.length) ∧ Hid (Lim o) ∧ Hid (val (a.drop i) = dv * val (o.drop i) + r) ∧ Hp [] w wr [.blk g (limbs o) 99]) (fun _ v _ => (intOf v + 1).toNat)
 case atStart => exact ⟨a.length, 0, List.replicate a.length 0, Nat.le_refl _, rfl, rfl, hd0, hid List.length_replicate, hid (Lim.zeros _), hid (by rw [List.drop_eq_nil_of_le (Nat.le_refl _), List.drop_eq_nil_of_le (by rw [List.length_replicate]; exact Nat.le_refl _)]; simp [val]), H⟩
 case round =>
  clear H
  obtain ⟨i, r, o, hi, rfl, rfl, hr, Hol, Hlo, Hv, H⟩ := hrel
  by_cases h0 : i = 0
  ·have HV : Hid (val a = dv * val o + r) := hid (by
    have := Hv.out
    rwa [h0, List.drop_zero, List.drop_zero] at this)
   have h0' : (i : Int) - 1 < 0 := by omega
   clear h0
   go_wp2_with (refine x_q H ?_)
   have hL : LR _ (some ⟨g, 0, none⟩) a.length o := LR.of_blk (pad := []) (by rw [List.append_nil]; exact H.at g) Hlo.out (by rw [Hol.out]; exact Nat.le_refl _) (by unfold maxLen; omega)
   have HL := hid hL
   have HQ : Hid (val o = val a / dv) := hid (by rw [HV.out, Nat.mul_add_div hd0, Nat.div_eq_of_lt hr, Nat.add_zero])
   have HR : Hid (val a % dv = r) := hid (by rw [HV.out, Nat.mul_add_mod, Nat.mod_eq_of_lt hr])
   refine Calls.mono (trim_any o Hol.out HL.out) ?_
   rintro e w1 ⟨rfl, hF⟩
   have HL2 := hid (hL.fr hF).trim
   have H1 := H.step hF (by simp)
   clear H hF hL HL
   have H := H1
   clear H1
   go_wp2_with (refine x_q H ?_)
   refine bodyPost_ret (results_tmp2 rfl _ _ _) rfl ?_
   rw [HQ.out] at HL2
   exact ⟨_, _, by rw [HQ.out, HR.out]; rfl, H.fr, HL2.out, fun b off e => by cases e; exact hg.1⟩
  ·obtain ⟨j, rfl⟩ : ∃ j, i = j + 1 := ⟨i - 1, by omega⟩
   obtain ⟨x, hx⟩ : ∃ x, a[j]? = some x := ⟨_, List.getElem?_eq_getElem (by omega)⟩
   have hxv := limbs_at hx
   have hxB := Hh.out.lim.at hx
   have Hx := hid hx
   clear hx h0
   obtain ⟨b0, off, rfl, hb0, hcell⟩ := Hh.out.rd.rng (limbs_ne (i := j) (by omega))
   have H1 := H.pushRng (b := b0) (off := off) hb0 (by simp) hcell
   clear H hcell
   have H := H1
   clear H1
   have e1 : (((j + 1 : Nat) : Int) - 1) = (j : Int) := by omega
   rw [e1]
   clear e1
   have hjo : j < o.length := by rw [Hol.out]; omega
   obtain ⟨ov, hov⟩ : ∃ ov, o[j]? = some ov := ⟨_, List.getElem?_eq_getElem hjo⟩
   have hovv := limbs_at hov
   have hlim := short_limb hr hxB
   have Hlim := hid hlim
   clear hov hlim
   go_wp2_with (first | refine x_q H ?_ | refine x_e (ev_over rfl rfl) ?_ | refine x_e (ev_orJ rfl rfl rfl) ?_ | (revert H; refine x_s ?_; intro w1 hf H; (try clear hf)))
   have e1 : ((r : Int) * 4294967296 + (x : Int)) / (dv : Int) % 4294967296 = (((r * 4294967296 + x) / dv : Nat) : Int) := by
    have e2 : ((r : Int) * 4294967296 + (x : Int)) / (dv : Int) = (((r * 4294967296 + x) / dv : Nat) : Int) := by rw [Int.natCast_ediv]; congr 1
    rw [e2]
    have h := Hlim.out
    generalize (r * 4294967296 + x) / dv = q at h ⊢
    omega
   have e3 : ((r : Int) * 4294967296 + (x : Int)) % (dv : Int) = (((r * 4294967296 + x) % dv : Nat) : Int) := by rw [Int.natCast_emod]; congr 1
   rw [e1, limbs_set] at H
   rw [e3]
   go_roundw
   case rel => exact ⟨j, (r * 4294967296 + x) % dv, o.set j ((r * 4294967296 + x) / dv), by omega, rfl, rfl, Nat.mod_lt _ hd0, hid (by rw [List.length_set]; exact Hol.out), hid (Hlo.out.set _ Hlim.out), hid (by rw [drop_set _ _ _ hjo, drop_cons_at Hx.out]; simp only [val]; exact short_round Hv.out), H.sub (by repeat first | exact List.Sublist.refl _ | exact List.nil_sublist _ | apply List.Sublist.cons_cons | apply List.Sublist.cons)⟩
   case measure => (simp [intOf]; try omega)
end Go.Proofs.YthbeeeclgbpopaaGreatDoor
namespace Go.Proofs.YthbeeeclgbpopaaGreatDoor
open Go.RowKit
set_option linter.unusedSimpArgs false
set_option linter.unusedVariables false
set_option maxHeartbeats 4000000
set_option maxRecDepth 100000
def fmt (z : Int) : List UInt8 := if z < 0 then 45 :: dec z.natAbs else dec z.natAbs
theorem LR.frS {w w' : World} {p : Option Addr} {c : Nat} {l : List Nat} {S : List Nat} (h : LR w p c l) (k : Fr S w w') (hn : ∀ b off, p = some ⟨b, off, none⟩ → b ∉ S) : LR w' p c l := by
 cases l with
 | nil => exact h.empty
 | cons x l =>
  obtain ⟨b, off, rfl, hb, hcell⟩ := h.rd.rng (by simp [limbs])
  refine ⟨h.nil, h.cap, h.max, h.lim, h.rd.fr k (fun b' hb' => ?_)⟩
  have e : b' = b := by
   simp [Value.ownBlock] at hb'
   omega
  subst e
  exact hn _ _ rfl
theorem run_strAdd {P : Program} {t : TypeId} {w : World} (s r : List UInt8) (hl : s.length + r.length ≤ 1000000000) : (binOp .add t (strV s) (strV r)).run P w = .ok (strV (s ++ r)) w := by
 have e : (⟨s.toArray⟩ : ByteArray) ++ ⟨r.toArray⟩ = ⟨(s ++ r).toArray⟩ := by
  apply ByteArray.ext
  simp [ByteArray.data_append]
 have hn : ¬ (((ByteArray.mk s.toArray).size + (ByteArray.mk r.toArray).size : Nat) : Int) > IntKind.i64.max := by
  show ¬ (((s.toArray.size + r.toArray.size : Nat) : Int) > 9223372036854775807)
  simp only [List.size_toArray]
  omega
 have e2 : (Op.stringOp .add ⟨s.toArray⟩ ⟨r.toArray⟩).run P w = .ok (strV (s ++ r)) w := by
  unfold Op.stringOp
  simp only [if_neg hn, e]
  rfl
 exact e2
theorem Hp.past {w wr : World} {l : List Ent} {k : Nat} {S : List Nat} {Q : World → Prop} {g : Nat} (H : Hp [] w wr l) (hm : .obj k S Q ∈ l) (hS : g ∈ S) {w' : World} (hF : Fr [g] wr w') : Fr [] w w' :=
 H.fr.andThen hF (fun x hx => by
  simp only [List.mem_singleton] at hx
  subst hx
  exact (H.ok _ hm).2.2 _ hS)
theorem fmt_zero : fmt 0 = [48] := by
 unfold fmt
 rw [if_neg (by decide)]
 exact dec_small (by decide)
theorem Dg.fin {N n : Nat} {gs : List (List UInt8)} (h : Dg N n 0 gs) (hne : gs ≠ []) : gs.reverse.flatten = dec N := by
 rw [h.d, if_pos ⟨rfl, hne⟩, List.nil_append]
set_option maxHeartbeats 8000000 in
theorem format_any {w : World} {p : Option Addr} {n c : Nat} (neg : Bool) (l : List Nat) (hl : l.length = n) (hn : n ≤ 10000) (h : LR w p c l) (ht : Lib.TabIs Tryz.prog w "internal/strconv.uint64pow10" .u64 Lib.pow10Tab) :
  Calls Tryz.prog 52 #[.agg #[.bool neg, .slice p n c]] w fun e w' => e = .returned (strV (fmt (zv neg l))) ∧ Fr [] w w' := by
 subst hl
 have Hh := hid h
 have hA := hid (h.trim)
 have HT := hid ht
 have hlen := digs_len_le h.lim
 have H := Hp.start [] w
 clear h ht
 obtain ⟨A, hAe⟩ : ∃ A, val l = A := ⟨_, rfl⟩
 have Hv := hid hAe
 have Hz : Hid (zv neg l = sg neg A) := hid (by rw [zv_sg, hAe])
 rw [hAe] at hA hlen
 clear hAe
 have HAl := hid (digs_lt A)
 go_enter Tryz.func52, Tryz.ntmps52
 go_wp2_with (first | refine x_q H ?_ | (revert H; refine x_g ?_; intro g w1 hg hf H; ((first | replace hkk := hid (fun p c l h hn => LR.frS (hkk.out p c l h hn) hf hn) | replace hkk := hid (fun p c l h hn => (hkk.out p c l h hn).fr hf) | skip); clear hf)))
 (refine x_c H (trim_any l rfl (Hh.out.fr H.fr)) ?_; clear H; rintro e w1 ⟨rfl, hF⟩ H)
 rw [Hv.out]
 go_wp2_with fail
 (refine x_c H (clone_any (digs A) rfl (by omega) (hA.out.fr H.fr)) ?_; clear H; rintro e w1 ⟨p1, c1, rfl, hF, hL⟩ H; have HL1 := hid hL; clear hL)
 go_wp2_with fail
 have H1 := H.newRow 0 (e := 9) (sz := 1)
 clear H
 have H := H1
 clear H1
 go_loopg [3, 4] A (fun kk s3 s4 wr => ∃ (p1 : Option Addr) (c1 : Nat) (gs : List (List UInt8)) (v : Value) (S : List Nat) (m : Nat), s3 = .slice p1 (digs kk).length c1 ∧ s4 = v ∧ Hid (LR wr p1 c1 (digs kk)) ∧ Dg A (digs A).length kk gs ∧ (digs kk).length ≤ 10000 ∧ Hid (gs.length = m) ∧ m ≤ 320000 ∧ Hp [] w wr [.obj 0 S (RowAt 9 1 v m (gs.map strV) S), .blk g [.bool neg, .slice p l.length c] 50])
 case atStart => exact ⟨p1, c1, [], _, _, 0, rfl, rfl, HL1, Dg.start _ _, by omega, hid rfl, by omega, H⟩
 case round =>
  clear H HL1
  obtain ⟨p1, c1, gs, v, S, m, rfl, hv, HL1, HD, hkl, Hm, hm3, H⟩ := hrel
  obtain ⟨pg, cg, he, hmc, hcm, _⟩ := (H.rowo 0).form
  subst he
  subst hv
  unfold maxLen at hcm
  by_cases h0 : gk = 0
  ·have h0' : (digs gk).length ≤ 0 := by rw [h0, digs_zero]; exact Nat.le_refl _
   have H0 := hid h0
   clear h0
   by_cases hm0 : m ≤ 0
   ·have hA0 : Hid (A = 0) := hid (by
     have e : gs = [] := List.eq_nil_of_length_eq_zero (by have := Hm.out; omega)
     have := HD.x
     rw [H0.out, e] at this
     simpa using this.symm)
    go_wp2_with (refine x_q H ?_)
    go_ret
    refine ⟨?_, H.fr⟩
    rw [Hz.out, hA0.out, sg_zero, fmt_zero]
    rfl
   ·have hm1 : 0 < m := by omega
    have hne : gs ≠ [] := fun e => by have := Hm.out; rw [e] at this; simp at this; omega
    have Hf : Hid (gs.reverse.flatten = dec A) := hid (by have h1 := HD; rw [H0.out] at h1; exact h1.fin hne)
    have HA0 := hid (HD.nz hne)
    have Hdl : Hid ((dec A).length ≤ 9 * 320000) := hid (by
     rw [← Hf.out]
     have h1 := HD.bytes
     have h2 : gs.reverse.flatten.length = gs.flatten.length := by
      rw [List.length_flatten, List.length_flatten, List.map_reverse, List.sum_reverse]
     have := Hm.out
     omega)
    clear hne hm0
    cases neg
    ·go_wp2_with (refine x_q H ?_)
     obtain ⟨hrow0, ⟨hS0, hn0', he⟩ | ⟨g0, cap0, pad0, hS0, he, hle, hmax, hlen0, hg0⟩⟩ := H.rowo 0
     ·exact absurd hn0' (by omega)
     injection he with e1 e2 e3
     subst e1 e3
     refine Calls.mono (reverse_any (gs) pad0 Hm.out hg0 (by have := Hm.out; omega)) ?_
     rintro e w1 ⟨rfl, hF, hgw, hcell⟩
     have hfr := H.past (g := g0) (by first | exact .head _ | exact .tail _ (.head _)) (by rw [hS0]; simp) hF
     clear H hF hS0 hrow0
     have H : Hp [] w w1 [] := ⟨hfr, by simp, by simp⟩
     clear hfr
     have Hcell := hid hcell
     clear hcell
     go_wp2_with fail
     refine Calls.mono (join_any (gs).reverse (by rw [List.length_reverse]; exact Hm.out) (fun j x hx => Hcell.out j x hx) hgw (by rw [List.length_reverse]; have := Hm.out; omega) (by rw [List.length_reverse]; have := Hm.out; omega) (by rw [Hf.out]; have := Hdl.out; (try simp only [List.length_cons]); omega)) ?_
     rintro e w2 ⟨rfl, hF⟩
     have H1 := H.step hF (by simp)
     clear H hF
     have H := H1
     clear H1
     rw [Hf.out]
     go_wp2_with fail
     go_ret
     refine ⟨?_, H.fr⟩
     rw [Hz.out, fmt, sg_abs]
     rw [if_neg (by unfold sg; simp)]
     rfl
    ·go_wp2_with (first | refine x_q H ?_ | (refine is_blt (b := .append) rfl ?_; go_loud (refine wl_rw rfl (fun K hK => c_aprS H rfl rfl rfl 0 (H.rd (b := g) (off := 0) (vs := [strV [45]]) List.prefix_rfl) rfl (by intro u hu; simp only [List.mem_singleton] at hu; subst hu; rfl) (by omega) (by unfold maxLen; omega) (fun p1 c1 w1 S' hf H1 => hK _ _ ?_))); (clear hK K); (clear H; have H := H1; clear H1; (try dsimp only at H); ((first | replace hkk := hid (fun p c l h hn => LR.frS (hkk.out p c l h hn) hf hn) | replace hkk := hid (fun p c l h hn => (hkk.out p c l h hn).fr hf) | skip); clear hf)); (simp only [nrm, ↓reduceIte, Nat.reduceAdd])) | (revert H; refine x_g ?_; intro g w1 hg hf H; ((first | replace hkk := hid (fun p c l h hn => LR.frS (hkk.out p c l h hn) hf hn) | replace hkk := hid (fun p c l h hn => (hkk.out p c l h hn).fr hf) | skip); clear hf)))
     rw [show (gs.map strV) ++ [strV [45]] = (gs ++ [[45]]).map strV by simp] at H
     have Hm2 : Hid ((gs ++ [[45]]).length = m + 1) := hid (by rw [List.length_append, Hm.out]; rfl)
     have Hf2 : Hid ((gs ++ [[45]]).reverse.flatten = 45 :: dec A) := hid (by rw [List.reverse_append, List.reverse_singleton, List.singleton_append, List.flatten_cons, Hf.out]; rfl)
     obtain ⟨hrow0, ⟨hS0, hn0', he⟩ | ⟨g0, cap0, pad0, hS0, he, hle, hmax, hlen0, hg0⟩⟩ := H.rowo 0
     ·exact absurd hn0' (by omega)
     injection he with e1 e2 e3
     subst e1 e3
     refine Calls.mono (reverse_any (gs ++ [[45]]) pad0 Hm2.out hg0 (by have := Hm2.out; omega)) ?_
     rintro e w1 ⟨rfl, hF, hgw, hcell⟩
     have hfr := H.past (g := g0) (by first | exact .head _ | exact .tail _ (.head _)) (by rw [hS0]; simp) hF
     clear H hF hS0 hrow0
     have H : Hp [] w w1 [] := ⟨hfr, by simp, by simp⟩
     clear hfr
     have Hcell := hid hcell
     clear hcell
     go_wp2_with fail
     refine Calls.mono (join_any (gs ++ [[45]]).reverse (by rw [List.length_reverse]; exact Hm2.out) (fun j x hx => Hcell.out j x hx) hgw (by rw [List.length_reverse]; have := Hm2.out; omega) (by rw [List.length_reverse]; have := Hm2.out; omega) (by rw [Hf2.out]; have := Hdl.out; (try simp only [List.length_cons]); omega)) ?_
     rintro e w2 ⟨rfl, hF⟩
     have H1 := H.step hF (by simp)
     clear H hF
     have H := H1
     clear H1
     rw [Hf2.out]
     go_wp2_with fail
     go_ret
     refine ⟨?_, H.fr⟩
     rw [Hz.out, fmt, sg_abs]
     rw [if_pos (by have := HA0.out; unfold sg; simp; omega)]
     rfl
  ·have hkp : 0 < (digs gk).length := digs_len_pos h0
   have HN := HD.next HAl.out h0
   have hlt := hid (Nat.div_lt_self (Nat.pos_of_ne_zero h0) (show 1 < 1000000000 by decide))
   have h0 := hid h0
   have hml := HN.len
   rw [List.length_append, Hm.out, List.length_cons, List.length_nil] at hml
   have hql := digs_mono (Nat.div_le_self gk 1000000000)
   go_wp2_with (refine x_q H ?_)
   have hSlt : ∀ x ∈ S, x < wr.heap.size := (H.ok _ (.head _)).2.1.lt _ (H.ok _ (.head _)).1
   (refine x_c H (short_new (digs gk) 1000000000 rfl (by omega) HL1.out (by omega) (by omega)) ?_; clear H; rintro e w1 ⟨p2, c2, rfl, hF, hL, hnw⟩ H; have HL2 := hid hL; have HN2 : Hid (∀ b off, p2 = some ⟨b, off, none⟩ → b ∉ S) := hid (fun b off e hb => by have h1 := hnw b off e; have h2 := hSlt b hb; omega); clear hL hnw hSlt)
   rw [val_digs] at HL2 ⊢
   have hr9 : gk % 1000000000 < 1000000000 := Nat.mod_lt _ (by decide)
   have hgr : Hid (grp gk = if gk / 1000000000 = 0 then dec (gk % 1000000000) else pad9 (gk % 1000000000)) := hid rfl
   generalize gk % 1000000000 = r at hr9 hgr ⊢
   generalize gk / 1000000000 = X at *
   go_wp2_with (refine x_q H ?_)
   (refine x_c H (itoa_any r (by omega) _ (TabIs.fr HT.out H.fr)) ?_; clear H; rintro e w1 ⟨rfl, hF⟩ H; replace HL2 := hid (HL2.out.fr hF))
   by_cases hX : X = 0
   ·have hX0 : (digs X).length ≤ 0 := by rw [hX, digs_zero]; exact Nat.le_refl _
    have Hg : Hid (grp gk = dec r) := hid (by rw [hgr.out, if_pos hX])
    clear hX hgr
    have hkk := hid (fun (p : Option Addr) (c : Nat) (l : List Nat) (h : LR w1 p c l) (hn : ∀ b off, p = some ⟨b, off, none⟩ → b ∉ S) => h)
    go_wp2_with (first | refine x_q H ?_ | (refine is_blt (b := .append) rfl ?_; go_loud (refine wl_rw rfl (fun K hK => c_aprS H rfl rfl rfl 0 (H.rd (b := g) (off := 0) (vs := [strV (dec r)]) List.prefix_rfl) rfl (by intro u hu; simp only [List.mem_singleton] at hu; subst hu; rfl) (by omega) (by unfold maxLen; omega) (fun p1 c1 w1 S' hf H1 => hK _ _ ?_))); (clear hK K); (clear H; have H := H1; clear H1; (try dsimp only at H); ((first | replace hkk := hid (fun p c l h hn => LR.frS (hkk.out p c l h hn) hf hn) | replace hkk := hid (fun p c l h hn => (hkk.out p c l h hn).fr hf) | skip); clear hf)); (simp only [nrm, ↓reduceIte, Nat.reduceAdd])) | (revert H; refine x_g ?_; intro g w1 hg hf H; ((first | replace hkk := hid (fun p c l h hn => LR.frS (hkk.out p c l h hn) hf hn) | replace hkk := hid (fun p c l h hn => (hkk.out p c l h hn).fr hf) | skip); clear hf)))
    rw [show (gs.map strV) ++ [strV (dec r)] = (gs ++ [grp gk]).map strV by rw [Hg.out]; simp] at H
    go_roundg X
    case measure => exact hlt.out
    case rel => exact ⟨p2, c2, gs ++ [grp gk], _, S', m + 1, rfl, rfl, hid (hkk.out _ _ _ HL2.out HN2.out), HN, by omega, hid (by rw [List.length_append, Hm.out]; rfl), by omega, H.sub (by repeat first | exact List.Sublist.refl _ | exact List.nil_sublist _ | apply List.Sublist.cons_cons | apply List.Sublist.cons)⟩
   ·have hX0 : 0 < (digs X).length := digs_len_pos hX
    have Hg : Hid (grp gk = pad9 r) := hid (by rw [hgr.out, if_neg hX])
    have hd9 := dec_len9 hr9
    obtain ⟨b, hb⟩ : ∃ b : ByteArray, b = ⟨(dec r).toArray⟩ := ⟨_, rfl⟩
    have hbs : b.size = (dec r).length := by rw [hb]; show (dec r).toArray.size = _; simp
    have hbs9 : b.size ≤ 9 := by omega
    have Hbs := hid hbs
    have Hb : Hid (Value.string b = strV (dec r)) := hid (by rw [hb]; rfl)
    clear hX hgr hb hbs
    rw [show strV (Lib.decDigits r) = Value.string b from Hb.out.symm]
    go_wp2_with (refine x_q H ?_)
    rw [show (9 : Int) - (b.size : Int) = ((9 - b.size : Nat) : Int) by omega]
    (refine x_c H (repeat_any (9 - b.size) (by omega) _) ?_; clear H; rintro e w1 ⟨rfl, hF⟩ H; replace HL2 := hid (HL2.out.fr hF))
    have Hp9 : Hid (List.replicate (9 - b.size) 48 ++ dec r = pad9 r) := hid (by rw [Hbs.out]; rfl)
    have hadd : (List.replicate (9 - b.size) (48 : UInt8)).length + (dec r).length ≤ 1000000000 := by rw [List.length_replicate]; omega
    rw [Hb.out]
    go_wp2_with fail
    rw [run_strAdd _ _ hadd, Hp9.out]
    have hkk := hid (fun (p : Option Addr) (c : Nat) (l : List Nat) (h : LR w1 p c l) (hn : ∀ b off, p = some ⟨b, off, none⟩ → b ∉ S) => h)
    go_wp2_with (first | (refine is_blt (b := .append) rfl ?_; go_loud (refine wl_rw rfl (fun K hK => c_aprS H rfl rfl rfl 0 (H.rd (b := g) (off := 0) (vs := [strV (pad9 r)]) List.prefix_rfl) rfl (by intro u hu; simp only [List.mem_singleton] at hu; subst hu; rfl) (by omega) (by unfold maxLen; omega) (fun p1 c1 w1 S' hf H1 => hK _ _ ?_))); (clear hK K); (clear H; have H := H1; clear H1; (try dsimp only at H); ((first | replace hkk := hid (fun p c l h hn => LR.frS (hkk.out p c l h hn) hf hn) | replace hkk := hid (fun p c l h hn => (hkk.out p c l h hn).fr hf) | skip); clear hf)); (simp only [nrm, ↓reduceIte, Nat.reduceAdd])) | (revert H; refine x_g ?_; intro g w1 hg hf H; ((first | replace hkk := hid (fun p c l h hn => LR.frS (hkk.out p c l h hn) hf hn) | replace hkk := hid (fun p c l h hn => (hkk.out p c l h hn).fr hf) | skip); clear hf)))
    rw [show (gs.map strV) ++ [strV (pad9 r)] = (gs ++ [grp gk]).map strV by rw [Hg.out]; simp] at H
    go_roundg X
    case measure => exact hlt.out
    case rel => exact ⟨p2, c2, gs ++ [grp gk], _, S', m + 1, rfl, rfl, hid (hkk.out _ _ _ HL2.out HN2.out), HN, by omega, hid (by rw [List.length_append, Hm.out]; rfl), by omega, H.sub (by repeat first | exact List.Sublist.refl _ | exact List.nil_sublist _ | apply List.Sublist.cons_cons | apply List.Sublist.cons)⟩
end Go.Proofs.YthbeeeclgbpopaaGreatDoor
