import Derived.Test.YtbiohhmpclnpgaaGreatDoorXPz2
import Derived.Shelf.Strings.Trim
import Derived.Shelf.Strings.SlTrimAscii
import Derived.Shelf.Strings.IndexAny
import Derived.Shelf.Strings.IndexAnyAll
import Derived.Shelf.Strings.Runes
import Derived.Laws.RangeString
import Derived.Deep.LoopGhost
import Derived.Test.YtbiohhmpclnpgaaGreatDoorXDc13
import Derived.Test.YtbiohhmpclnpgaaGreatDoorXEa1
namespace Go.Proofs
open Go.Shelf
set_option linter.unusedSimpArgs false
set_option linter.unusedVariables false
def Tryz.lays161_ren : Go.Shelf.Ren := ⟨fun | 161 => 13 | 231 => 41 | 227 => 42 | 233 => 43 | 235 => 44 | 228 => 85 | 197 => 86 | 151 => 87 | 260 => 128 | 152 => 126 | 137 => 169 | 119 => 170 | 224 => 171 | 225 => 172 | 217 => 196 | 266 => 204 | n => n, fun | 9 => 9 | 4 => 4 | 3 => 3 | 5 => 5 | 117 => 93 | 116 => 92 | 0 => 0 | 124 => 96 | 105 => 142 | 21 => 21 | 119 => 211 | 46 => 43 | 139 => 214 | 138 => 213 | n => n, fun | 3 => 1 | 4 => 2 | n => n⟩
theorem Tryz.lays161 : Go.Proofs.Lays.n161 Tryz.prog Tryz.lays161_ren := {
 mixed := by kernel_rfl
 f119 := Tryz.func170.trans (congrArg some (by kernel_rfl))
 f137 := Tryz.func169.trans (congrArg some (by kernel_rfl))
 f151 := Tryz.func87.trans (congrArg some (by kernel_rfl))
 f152 := Tryz.func126.trans (congrArg some (by kernel_rfl))
 f161 := Tryz.func13.trans (congrArg some (by kernel_rfl))
 f197 := Tryz.func86.trans (congrArg some (by kernel_rfl))
 f217 := Tryz.func196.trans (congrArg some (by kernel_rfl))
 f224 := Tryz.func171.trans (congrArg some (by kernel_rfl))
 f225 := Tryz.func172.trans (congrArg some (by kernel_rfl))
 f227 := Tryz.func42.trans (congrArg some (by kernel_rfl))
 f228 := Tryz.func85.trans (congrArg some (by kernel_rfl))
 f231 := Tryz.func41.trans (congrArg some (by kernel_rfl))
 f233 := Tryz.func43.trans (congrArg some (by kernel_rfl))
 f235 := Tryz.func44.trans (congrArg some (by kernel_rfl))
 f260 := Tryz.func128.trans (congrArg some (by kernel_rfl))
 f266 := Tryz.func204.trans (congrArg some (by kernel_rfl))
 t0 := Tryz.underlying0
 a0 := Tryz.isAgg0
 z0 := Tryz.sizeOf0
 v0 := Tryz.zeroValue0
 t3 := Tryz.underlying3
 a3 := Tryz.isAgg3
 z3 := Tryz.sizeOf3
 v3 := Tryz.zeroValue3
 t4 := Tryz.underlying4
 a4 := Tryz.isAgg4
 z4 := Tryz.sizeOf4
 v4 := Tryz.zeroValue4
 t5 := Tryz.underlying5
 a5 := Tryz.isAgg5
 z5 := Tryz.sizeOf5
 v5 := Tryz.zeroValue5
 t9 := Tryz.underlying9
 a9 := Tryz.isAgg9
 z9 := Tryz.sizeOf9
 v9 := Tryz.zeroValue9
 t21 := Tryz.underlying21
 a21 := Tryz.isAgg21
 z21 := Tryz.sizeOf21
 v21 := Tryz.zeroValue21
 t46 := Tryz.underlying43
 a46 := Tryz.isAgg43
 z46 := Tryz.sizeOf43
 v46 := Tryz.zeroValue43
 t105 := Tryz.underlying142
 a105 := Tryz.isAgg142
 z105 := Tryz.sizeOf142
 v105 := Tryz.zeroValue142
 t116 := Tryz.underlying92
 a116 := Tryz.isAgg92
 z116 := Tryz.sizeOf92
 t117 := Tryz.underlying93
 a117 := Tryz.isAgg93
 z117 := Tryz.sizeOf93
 v117 := Tryz.zeroValue93
 t119 := Tryz.underlying211
 a119 := Tryz.isAgg211
 z119 := Tryz.sizeOf211
 t124 := Tryz.underlying96
 a124 := Tryz.isAgg96
 z124 := Tryz.sizeOf96
 v124 := Tryz.zeroValue96
 t138 := Tryz.underlying213
 a138 := Tryz.isAgg213
 z138 := Tryz.sizeOf213
 v138 := Tryz.zeroValue213
 t139 := Tryz.underlying214
 a139 := Tryz.isAgg214
 z139 := Tryz.sizeOf214
 v139 := Tryz.zeroValue214
 g3 := by kernel_rfl
 g4 := by kernel_rfl }
open Go.RowKit in
theorem Tryz.strings_TrimLeft_one (s : ByteArray) (c : UInt8) (hc : c.toNat < 128) (w : World) :
  Calls Tryz.prog 13 #[.string s, .string ⟨#[c]⟩] w fun e w' => e = .returned (.string ⟨(Lib.trimLeftB s.data.toList c).toArray⟩) ∧ w' = w := Any.strings_TrimLeft_one Tryz.lays161 s c hc w
def Tryz.lays153_ren : Go.Shelf.Ren := ⟨fun | 153 => 84 | 152 => 126 | 226 => 127 | 227 => 42 | 228 => 85 | 137 => 169 | 119 => 170 | 224 => 171 | 225 => 172 | 217 => 196 | 266 => 204 | n => n, fun | 9 => 9 | 3 => 3 | 4 => 4 | 5 => 5 | 21 => 21 | 117 => 93 | 116 => 92 | 0 => 0 | 46 => 43 | 124 => 96 | n => n, fun | n => n⟩
theorem Tryz.lays153 : Go.Proofs.Lays.n153 Tryz.prog Tryz.lays153_ren := {
 mixed := by kernel_rfl
 f119 := Tryz.func170.trans (congrArg some (by kernel_rfl))
 f137 := Tryz.func169.trans (congrArg some (by kernel_rfl))
 f152 := Tryz.func126.trans (congrArg some (by kernel_rfl))
 f153 := Tryz.func84.trans (congrArg some (by kernel_rfl))
 f217 := Tryz.func196.trans (congrArg some (by kernel_rfl))
 f224 := Tryz.func171.trans (congrArg some (by kernel_rfl))
 f225 := Tryz.func172.trans (congrArg some (by kernel_rfl))
 f226 := Tryz.func127.trans (congrArg some (by kernel_rfl))
 f227 := Tryz.func42.trans (congrArg some (by kernel_rfl))
 f228 := Tryz.func85.trans (congrArg some (by kernel_rfl))
 f266 := Tryz.func204.trans (congrArg some (by kernel_rfl))
 t0 := Tryz.underlying0
 a0 := Tryz.isAgg0
 z0 := Tryz.sizeOf0
 v0 := Tryz.zeroValue0
 t3 := Tryz.underlying3
 a3 := Tryz.isAgg3
 z3 := Tryz.sizeOf3
 v3 := Tryz.zeroValue3
 t4 := Tryz.underlying4
 a4 := Tryz.isAgg4
 z4 := Tryz.sizeOf4
 v4 := Tryz.zeroValue4
 t5 := Tryz.underlying5
 a5 := Tryz.isAgg5
 z5 := Tryz.sizeOf5
 v5 := Tryz.zeroValue5
 t9 := Tryz.underlying9
 a9 := Tryz.isAgg9
 z9 := Tryz.sizeOf9
 v9 := Tryz.zeroValue9
 t21 := Tryz.underlying21
 a21 := Tryz.isAgg21
 z21 := Tryz.sizeOf21
 v21 := Tryz.zeroValue21
 t46 := Tryz.underlying43
 a46 := Tryz.isAgg43
 z46 := Tryz.sizeOf43
 v46 := Tryz.zeroValue43
 t116 := Tryz.underlying92
 a116 := Tryz.isAgg92
 z116 := Tryz.sizeOf92
 t117 := Tryz.underlying93
 a117 := Tryz.isAgg93
 z117 := Tryz.sizeOf93
 v117 := Tryz.zeroValue93
 t124 := Tryz.underlying96
 a124 := Tryz.isAgg96
 z124 := Tryz.sizeOf96
 v124 := Tryz.zeroValue96 }
open Go.RowKit Go.Lib in
theorem Tryz.strings_IndexAny (hv116 : ∀ w, (zeroValue 92).run Tryz.prog w = .ok (.agg (Array.replicate 256 (.bool false))) w) (s chars : ByteArray) (w : World) (hs : s.size < 4294967281) (hcs : chars.size < 4294967281) (has : ∀ (j : Nat) b, s.data.toList[j]? = some b → b.toNat < 128) (hac : ∀ (j : Nat) b, chars.data.toList[j]? = some b → b.toNat < 128) :
  Calls Tryz.prog 84 #[.string s, .string chars] w fun e w' => e = .returned (.int .i64 (Lib.indexAny s.data.toList chars.data.toList)) ∧ Below w.heap.size w w' := Any.strings_IndexAny Tryz.lays153 hv116 (by kernel_rfl) s chars w hs hcs has hac
def Tryz.lays150_ren : Go.Shelf.Ren := ⟨fun | 150 => 39 | 153 => 84 | 152 => 126 | 226 => 127 | 227 => 42 | 228 => 85 | 137 => 169 | 119 => 170 | 224 => 171 | 225 => 172 | 217 => 196 | 266 => 204 | n => n, fun | 9 => 9 | 4 => 4 | 3 => 3 | 5 => 5 | 21 => 21 | 117 => 93 | 116 => 92 | 0 => 0 | 46 => 43 | 124 => 96 | n => n, fun | n => n⟩
theorem Tryz.lays150 : Go.Proofs.Lays.n150 Tryz.prog Tryz.lays150_ren := {
 mixed := by kernel_rfl
 f119 := Tryz.func170.trans (congrArg some (by kernel_rfl))
 f137 := Tryz.func169.trans (congrArg some (by kernel_rfl))
 f150 := Tryz.func39.trans (congrArg some (by kernel_rfl))
 f152 := Tryz.func126.trans (congrArg some (by kernel_rfl))
 f153 := Tryz.func84.trans (congrArg some (by kernel_rfl))
 f217 := Tryz.func196.trans (congrArg some (by kernel_rfl))
 f224 := Tryz.func171.trans (congrArg some (by kernel_rfl))
 f225 := Tryz.func172.trans (congrArg some (by kernel_rfl))
 f226 := Tryz.func127.trans (congrArg some (by kernel_rfl))
 f227 := Tryz.func42.trans (congrArg some (by kernel_rfl))
 f228 := Tryz.func85.trans (congrArg some (by kernel_rfl))
 f266 := Tryz.func204.trans (congrArg some (by kernel_rfl))
 t0 := Tryz.underlying0
 a0 := Tryz.isAgg0
 z0 := Tryz.sizeOf0
 v0 := Tryz.zeroValue0
 t3 := Tryz.underlying3
 a3 := Tryz.isAgg3
 z3 := Tryz.sizeOf3
 v3 := Tryz.zeroValue3
 t4 := Tryz.underlying4
 a4 := Tryz.isAgg4
 z4 := Tryz.sizeOf4
 v4 := Tryz.zeroValue4
 t5 := Tryz.underlying5
 a5 := Tryz.isAgg5
 z5 := Tryz.sizeOf5
 v5 := Tryz.zeroValue5
 t9 := Tryz.underlying9
 a9 := Tryz.isAgg9
 z9 := Tryz.sizeOf9
 v9 := Tryz.zeroValue9
 t21 := Tryz.underlying21
 a21 := Tryz.isAgg21
 z21 := Tryz.sizeOf21
 v21 := Tryz.zeroValue21
 t46 := Tryz.underlying43
 a46 := Tryz.isAgg43
 z46 := Tryz.sizeOf43
 v46 := Tryz.zeroValue43
 t116 := Tryz.underlying92
 a116 := Tryz.isAgg92
 z116 := Tryz.sizeOf92
 t117 := Tryz.underlying93
 a117 := Tryz.isAgg93
 z117 := Tryz.sizeOf93
 v117 := Tryz.zeroValue93
 t124 := Tryz.underlying96
 a124 := Tryz.isAgg96
 z124 := Tryz.sizeOf96
 v124 := Tryz.zeroValue96 }
open Go.RowKit Go.Lib in
theorem Tryz.strings_ContainsAny (hv116 : ∀ w, (zeroValue 92).run Tryz.prog w = .ok (.agg (Array.replicate 256 (.bool false))) w) (s chars : ByteArray) (w : World) (hs : s.size < 4294967281) (hcs : chars.size < 4294967281) (has : ∀ (j : Nat) b, s.data.toList[j]? = some b → b.toNat < 128) (hac : ∀ (j : Nat) b, chars.data.toList[j]? = some b → b.toNat < 128) :
  Calls Tryz.prog 39 #[.string s, .string chars] w fun e w' => e = .returned (.bool (Lib.containsAny s.data.toList chars.data.toList)) ∧ Below w.heap.size w w' := Any.strings_ContainsAny Tryz.lays150 hv116 (by kernel_rfl) s chars w hs hcs has hac
theorem Tryz.info92 : (Tryz.prog.info? 92).map (fun i => (i.zero, i.size)) = some (some (.agg (Array.replicate 256 (.bool false))), 256) := by kernel_rfl
open Go.RowKit Go.Lib in
theorem Tryz.strings_TrimLeft_ascii (s cutset : ByteArray) (w : World) (hcs : cutset.size < 4294967281) (hascii : ∀ (j : Nat) b, cutset.data.toList[j]? = some b → b.toNat < 128) :
  Calls Tryz.prog 13 #[.string s, .string cutset] w fun e w' => e = .returned (.string ⟨(Lib.trimLeftS s.data.toList cutset.data.toList).toArray⟩) ∧ Below w.heap.size w w' := Any.strings_TrimLeft_ascii Tryz.lays161 (zero_of_info Tryz.info92).1 (zero_of_info Tryz.info92).2 s cutset w hcs hascii
end Go.Proofs
namespace Go.Proofs.YtbiohhmpclnpgaaGreatDoor
set_option linter.unusedSimpArgs false
set_option linter.unusedVariables false
open Go.RowKit
set_option maxHeartbeats 8000000
set_option maxRecDepth 100000
theorem trim0_any (w : World) (s : List UInt8) : Calls Tryz.prog 13 #[strV s, .string (ByteArray.mk #[48])] w fun e w' => e = .returned (strV (s.dropWhile (· == 48))) ∧ Fr [] w w' := by
 refine Calls.mono (Tryz.strings_TrimLeft_one ⟨s.toArray⟩ 48 (by decide) w) ?_
 rintro e w' ⟨rfl, rfl⟩
 exact ⟨rfl, Fr.refl _ _⟩
theorem dig_of : ∀ n, n < 256 → [48, 49, 50, 51, 52, 53, 54, 55, 56, 57].contains (UInt8.ofNat n) = dig (UInt8.ofNat n) := by decide +kernel
theorem isE_of : ∀ n, n < 256 → [101, 69, 100, 68].contains (UInt8.ofNat n) = (UInt8.ofNat n == 101 || UInt8.ofNat n == 69 || UInt8.ofNat n == 100 || UInt8.ofNat n == 68) := by decide +kernel
theorem byte_of (b : UInt8) : b = UInt8.ofNat b.toNat := by simp
theorem trimD_any (w : World) (s : List UInt8) : Calls Tryz.prog 13 #[strV s, .string (ByteArray.mk #[48, 49, 50, 51, 52, 53, 54, 55, 56, 57])] w fun e w' => e = .returned (strV (s.dropWhile dig)) ∧ Fr [] w w' := by
 refine Calls.mono (Tryz.strings_TrimLeft_ascii ⟨s.toArray⟩ ⟨#[48, 49, 50, 51, 52, 53, 54, 55, 56, 57]⟩ w (by decide) ?_) ?_
 ·intro j b hb
  have := List.mem_of_getElem? hb
  simp at this
  rcases this with rfl | rfl | rfl | rfl | rfl | rfl | rfl | rfl | rfl | rfl <;> decide
 ·rintro e w' ⟨rfl, hF⟩
  refine ⟨?_, Fr.of_below hF⟩
  have e : (fun b => [48, 49, 50, 51, 52, 53, 54, 55, 56, 57].contains b) = dig := funext fun b => by
   rw [byte_of b]; exact dig_of _ b.toNat_lt
  show Ending.returned (strV (s.dropWhile (fun b => [48, 49, 50, 51, 52, 53, 54, 55, 56, 57].contains b))) = _
  rw [e]
theorem decode_one {c : UInt8} (hc : 128 ≤ c.toNat) : Utf8.decode ⟨#[c]⟩ 0 = (65533, 1) := by
 have e : (ByteArray.mk #[c]).get! (0 + 0) = c := rfl
 have e2 : (ByteArray.mk #[c]).size = 1 := rfl
 simp only [Utf8.decode, e, e2]
 rw [if_neg (by omega)]
 simp [Utf8.runeError]
theorem run_next_bad {P : Program} (w : World) {c : UInt8} (ty : TypeId) (hc : 128 ≤ c.toNat) :
  (Instr.next (.pointer (some ⟨w.heap.size, 0, none⟩)) true ty).run P (w.iter ⟨#[c]⟩ 0) = .ok (.tuple #[.bool true, .int .i64 0, .int .i32 65533]) (w.iter ⟨#[c]⟩ 1) := by
 have h : 0 < (ByteArray.mk #[c]).size := Nat.one_pos
 simp only [Instr.next, getObj, setObj, Sem.run_bind, Sem.run, World.iter_heap, Result.andThen, h, if_true, decode_one hc, World.iter_set]
 simp [goInt, Sem.run, World.iter_heap, World.iter_set]
def eEdD : ByteArray := ByteArray.mk #[101, 69, 100, 68]
theorem indexRune_bad (w : World) : Calls Tryz.prog 126 #[.string eEdD, .int .i32 65533] w fun e w' => e = .returned (.int .i64 (-1)) ∧ ∃ pos, w' = w.iter eEdD pos := by
 go_enter Tryz.func126, Tryz.ntmps126
 go_wp2
 go_loopg [5, 6] 4 (fun g _ _ wx => ∃ i : Nat, i + g = 4 ∧ wx = w.iter eEdD i)
 case atStart => exact ⟨0, by omega, rfl⟩
 case round =>
  obtain ⟨i, hig, rfl⟩ := hrel
  cases gk with
  | zero =>
   obtain rfl : i = 4 := by omega
   have hnx := fun ty => run_next_end (P := Tryz.prog) w eEdD 4 ty (by decide)
   go_wp2
   go_ret
   exact ⟨rfl, _, rfl⟩
  | succ g =>
   have hi : i = 0 ∨ i = 1 ∨ i = 2 ∨ i = 3 := by omega
   rcases hi with rfl | rfl | rfl | rfl
   ·have hnx := fun ty => run_next_ascii (P := Tryz.prog) w eEdD 0 ty (by decide) (by decide)
    rw [show ((eEdD[0]'(by decide)).toNat : Int) = 101 from rfl] at hnx
    go_wp2
    go_roundg g
    case measure => omega
    case rel => exact ⟨_, by omega, rfl⟩
   ·have hnx := fun ty => run_next_ascii (P := Tryz.prog) w eEdD 1 ty (by decide) (by decide)
    rw [show ((eEdD[1]'(by decide)).toNat : Int) = 69 from rfl] at hnx
    go_wp2
    go_roundg g
    case measure => omega
    case rel => exact ⟨_, by omega, rfl⟩
   ·have hnx := fun ty => run_next_ascii (P := Tryz.prog) w eEdD 2 ty (by decide) (by decide)
    rw [show ((eEdD[2]'(by decide)).toNat : Int) = 100 from rfl] at hnx
    go_wp2
    go_roundg g
    case measure => omega
    case rel => exact ⟨_, by omega, rfl⟩
   ·have hnx := fun ty => run_next_ascii (P := Tryz.prog) w eEdD 3 ty (by decide) (by decide)
    rw [show ((eEdD[3]'(by decide)).toNat : Int) = 68 from rfl] at hnx
    go_wp2
    go_roundg g
    case measure => omega
    case rel => exact ⟨_, by omega, rfl⟩
theorem run_next_stop {P : Program} (w : World) {b : Nat} {s : ByteArray} {pos : Nat} (ty : TypeId) (h : w.heap[b]? = some (.stringIter s pos)) (hp : ¬ pos < s.size) :
  (Instr.next (.pointer (some ⟨b, 0, none⟩)) true ty).run P w = .ok (.tuple #[.bool false]) w := by
 simp [Instr.next, getObj, Sem.run, h, hp]
theorem indexAny_bad (w : World) {c : UInt8} (hc : 128 ≤ c.toNat) : Calls Tryz.prog 84 #[.string ⟨#[c]⟩, .string eEdD] w fun e w' => e = .returned (.int .i64 (-1)) ∧ Below w.heap.size w w' := by
 have HC : Aside (128 ≤ c.toNat) := hc
 clear hc
 have hemp : eEdD.toList.isEmpty = false := by rw [Lib.toList_data]; rfl
 have hn1 : ((eEdD.size : Int) == 1) = false := by decide
 have hone : ((ByteArray.mk #[c]).size : Int) = 1 := rfl
 go_enter Tryz.func84, Tryz.ntmps84
 go_wp2
 go_loopg [9, 10] 1 (fun g _ _ wx => (g = 1 ∧ wx = w.iter ⟨#[c]⟩ 0) ∨ (g = 0 ∧ ∃ pos, wx = (w.iter ⟨#[c]⟩ 1).iter eEdD pos))
 case atStart => exact .inl ⟨rfl, rfl⟩
 case round =>
  rcases hrel with ⟨rfl, rfl⟩ | ⟨rfl, pos, rfl⟩
  ·have hnx := fun ty => run_next_bad (P := Tryz.prog) w ty HC.out
   go_wp2_with (fail)
   refine Calls.mono (indexRune_bad _) ?_
   rintro e w' ⟨rfl, pos, rfl⟩
   go_wp2_with (fail)
   go_roundg 0
   case measure => omega
   case rel => exact .inr ⟨rfl, pos, rfl⟩
  ·have hb : ((w.iter ⟨#[c]⟩ 1).iter eEdD pos).heap[w.heap.size]? = some (.stringIter ⟨#[c]⟩ 1) := by
    have h1 := World.iter_heap w ⟨#[c]⟩ 1
    have h2 : w.heap.size < (w.iter ⟨#[c]⟩ 1).heap.size := by show w.heap.size < (w.heap.push _).size; rw [Array.size_push]; omega
    show (((w.iter ⟨#[c]⟩ 1).heap.push _)[w.heap.size]?) = _
    rw [Array.getElem?_push_lt h2]
    rw [Array.getElem?_eq_getElem h2] at h1
    exact h1
   have hnx := fun ty => run_next_stop (P := Tryz.prog) _ ty hb (show ¬ 1 < 1 by decide)
   go_wp2
   go_ret
   exact ⟨rfl, ((Below.refl _ _).alloc (Nat.le_refl _) _).alloc (by show w.heap.size ≤ (w.heap.push _).size; rw [Array.size_push]; omega) _⟩
theorem containsAny_bad (w : World) {c : UInt8} (hc : 128 ≤ c.toNat) : Calls Tryz.prog 39 #[.string ⟨#[c]⟩, .string eEdD] w fun e w' => e = .returned (.bool false) ∧ Fr [] w w' := by
 go_enter Tryz.func39, Tryz.ntmps39
 go_wp2_with (fail)
 refine Calls.mono (indexAny_bad _ hc) ?_
 rintro e w' ⟨rfl, hw⟩
 go_wp2_with (fail)
 go_ret
 exact ⟨rfl, Fr.of_below hw⟩
theorem containsAny_one (w : World) (c : UInt8) : Calls Tryz.prog 39 #[strV [c], .string (ByteArray.mk #[101, 69, 100, 68])] w fun e w' => e = .returned (.bool (c == 101 || c == 69 || c == 100 || c == 68)) ∧ Fr [] w w' := by
 by_cases hc : c.toNat < 128
 ·refine Calls.mono (Tryz.strings_ContainsAny (zero_of_info Tryz.info92).1 ⟨#[c]⟩ eEdD w (show 1 < 4294967281 by decide) (show 4 < 4294967281 by decide) ?_ ?_) ?_
  ·intro j b hb
   have := List.mem_of_getElem? hb
   simp at this
   rw [this]; exact hc
  ·intro j b hb
   have := List.mem_of_getElem? hb
   simp [eEdD] at this
   rcases this with rfl | rfl | rfl | rfl <;> decide
  ·rintro e w' ⟨rfl, hF⟩
   refine ⟨?_, Fr.of_below hF⟩
   have h2 := isE_of c.toNat c.toNat_lt
   rw [← byte_of c] at h2
   rw [← h2]
   congr 2
   show Lib.containsAny [c] [101, 69, 100, 68] = _
   unfold Lib.containsAny Lib.indexAny
   cases h3 : List.contains [101, 69, 100, 68] c
   ·rw [if_neg (by simp), Lib.indexAny]; rfl
   ·rw [if_pos rfl]; rfl
 ·have h0 : (c == 101 || c == 69 || c == 100 || c == 68) = false := by
   have h1 : ∀ d : UInt8, d.toNat < 128 → (c == d) = false := fun d hd => beq_eq_false_iff_ne.2 (fun e => hc (e ▸ hd))
   rw [h1 101 (by decide), h1 69 (by decide), h1 100 (by decide), h1 68 (by decide)]; rfl
  rw [h0]
  exact containsAny_bad w (by omega)
end Go.Proofs.YtbiohhmpclnpgaaGreatDoor
namespace Go.Proofs.YtbiohhmpclnpgaaGreatDoor
open Go.RowKit
set_option linter.unusedSimpArgs false
set_option linter.unusedVariables false
set_option maxHeartbeats 8000000
set_option maxRecDepth 100000
theorem ev_strIdx {P : Program} {a : Act} {w : World} {o : Oper} {t : TypeId} {x y : Operand} (ho : o.op = .index t x y) {s : List UInt8} (hx : a.eval x = strV s) {k : IntKind} {i : Int} (hy : a.eval y = .int k i) [h : Sy P t] {b : UInt8} (h0 : 0 ≤ i) (hb : s[i.toNat]? = some b) : (execOp a.eval o).run P w = .ok (.value (.int .u8 b.toNat)) w := by
 unfold strV at hx
 obtain ⟨hlt, rfl⟩ := List.getElem?_eq_some_iff.1 hb
 have e : (Instr.index t (.string ⟨s.toArray⟩) (.int k i)).run P w = .ok (.int .u8 s[i.toNat].toNat) w := by
  rw [run_index_string _ _ _ _ _ h.h, dif_pos ⟨h0, by rw [ba_size]; omega⟩]
  rfl
 unfold execOp
 simp only [ho, hx, hy, Sem.run_bind, e, Result.andThen_ok, Sem.run_pure]
theorem take_drop_while (s : List UInt8) (p : UInt8 → Bool) : s.take (s.length - (s.dropWhile p).length) = s.takeWhile p ∧ s.drop (s.length - (s.dropWhile p).length) = s.dropWhile p := by
 have h : s.takeWhile p ++ s.dropWhile p = s := List.takeWhile_append_dropWhile
 have hl : (s.takeWhile p).length + (s.dropWhile p).length = s.length := by rw [← List.length_append, h]
 have e : s.length - (s.dropWhile p).length = (s.takeWhile p).length := by omega
 rw [e]
 generalize s.takeWhile p = a at *
 generalize s.dropWhile p = b at *
 subst h
 simp
theorem containsE_any (w : World) (c : UInt8) :
  Calls Tryz.prog 39 #[strV [c], .string (ByteArray.mk #[101, 69, 100, 68])] w fun e w' => e = .returned (.bool (isE c)) ∧ Fr [] w w' := containsAny_one w c
theorem dsg_len (s : List UInt8) : (dsg s).2.length ≤ s.length := by
 cases s with
 | nil => exact Nat.le_refl _
 | cons c r =>
  rw [dsg]
  split
  ·show r.length ≤ r.length + 1; omega
  ·split
   ·show r.length ≤ r.length + 1; omega
   ·exact Nat.le_refl _
theorem cutS_any (w : World) (s : List UInt8) (hs : s.length ≤ 2000000) :
  Calls Tryz.prog 37 #[strV s] w fun e w' => e = .returned (.tuple #[strV (s.takeWhile dig), strV (s.dropWhile dig)]) ∧ Fr [] w w' := by
 obtain ⟨h1, h2⟩ := take_drop_while s dig
 have hl : (s.dropWhile dig).length ≤ s.length := (List.dropWhile_suffix dig).length_le
 generalize s.takeWhile dig = a at *
 generalize hb : s.dropWhile dig = b at *
 have HB := hid hb
 clear hb
 have H1 : Hid (s.take ((s.length : Int) - b.length).toNat = a) := hid (by rw [← h1]; congr 1; omega)
 have H2 : Hid (s.drop ((s.length : Int) - b.length).toNat = b) := hid (by rw [show ((s.length : Int) - b.length).toNat = s.length - b.length by omega]; exact h2)
 clear h1 h2
 have H := Hp.start [] w
 go_enter Tryz.func37, Tryz.ntmps37
 go_wp2_with (first | refine x_e (ev_strEq0 rfl rfl rfl (by assumption)) ?_ | refine x_e (ev_strNe0 rfl rfl rfl (by assumption)) ?_ | refine x_q H ?_ | refine x_cm (fun h => ?_) (fun h => ?_) | refine x_l H ?_ | refine x_e (ev_strLen rfl rfl) ?_ | refine x_e (ev_strHead rfl rfl rfl (by assumption)) ?_ | refine x_e (ev_strTail rfl rfl rfl (by assumption)) ?_ | (revert H; refine xSF ?_; intro w1 H hk) | (revert H; refine x_g ?_; intro g w1 hg hf H; replace hf := hf.kp) | (revert H; refine x_s ?_; intro w1 hf H; clear hf))
 (refine x_c H (trimD_any _ s) ?_; clear H; rintro e w1 ⟨rfl, hF⟩ H; replace hF := hF.kp; rw [HB.out])
 go_wp2_with (first | refine x_e (ev_strEq0 rfl rfl rfl (by assumption)) ?_ | refine x_e (ev_strNe0 rfl rfl rfl (by assumption)) ?_ | refine x_q H ?_ | refine x_cm (fun h => ?_) (fun h => ?_) | refine x_l H ?_ | refine x_e (ev_strLen rfl rfl) ?_ | refine x_e (ev_strHead rfl rfl rfl (by assumption)) ?_ | refine x_e (ev_strTail rfl rfl rfl (by assumption)) ?_ | (revert H; refine xSF ?_; intro w1 H hk) | (revert H; refine x_g ?_; intro g w1 hg hf H; replace hf := hf.kp) | (revert H; refine x_s ?_; intro w1 hf H; clear hf))
 (revert H; refine w_pF 8 (.st 0 (.st 1 (.st 2 (.st 3 (.st 4 (.st 5 (.st 6 (.st 7 .done)))))))) ?_; intro w1 hf H; (first | replace hf := hf.kp | clear hf))
 iterate 2 refine p_q ?_
 (refine p_e rfl (fun w H => ev_strHead rfl rfl rfl H1) ?_)
 iterate 2 refine p_q ?_
 (refine p_e rfl (fun w H => ev_strTail rfl rfl rfl H2) ?_)
 iterate 2 refine p_q ?_
 (refine pl_done ?_)
 all_goals
  go_wp2_with (first | refine x_e (ev_strEq0 rfl rfl rfl (by assumption)) ?_ | refine x_e (ev_strNe0 rfl rfl rfl (by assumption)) ?_ | refine x_q H ?_ | refine x_cm (fun h => ?_) (fun h => ?_) | refine x_l H ?_ | refine x_e (ev_strLen rfl rfl) ?_ | refine x_e (ev_strHead rfl rfl rfl (by assumption)) ?_ | refine x_e (ev_strTail rfl rfl rfl (by assumption)) ?_ | (revert H; refine xSF ?_; intro w1 H hk) | (revert H; refine x_g ?_; intro g w1 hg hf H; replace hf := hf.kp) | (revert H; refine x_s ?_; intro w1 hf H; clear hf))
  refine bodyPost_ret (results_tmp2 rfl _ _ _) rfl ?_
  exact ⟨rfl, H.fr⟩
theorem signS_any (w : World) (s : List UInt8) (hs : s.length ≤ 2000000) :
  Calls Tryz.prog 36 #[strV s] w fun e w' => e = .returned (.tuple #[.bool (dsg s).1, strV (dsg s).2]) ∧ Fr [] w w' := by
 have H := Hp.start [] w
 cases s with
 | nil =>
  go_enter Tryz.func36, Tryz.ntmps36
  go_wp2_with (first | refine x_e (ev_strEq0 rfl rfl rfl (by assumption)) ?_ | refine x_e (ev_strNe0 rfl rfl rfl (by assumption)) ?_ | refine x_q H ?_ | refine x_cm (fun h => ?_) (fun h => ?_) | refine x_l H ?_ | refine x_e (ev_strLen rfl rfl) ?_ | refine x_e (ev_strHead rfl rfl rfl (by assumption)) ?_ | refine x_e (ev_strTail rfl rfl rfl (by assumption)) ?_ | (revert H; refine xSF ?_; intro w1 H hk) | (revert H; refine x_g ?_; intro g w1 hg hf H; replace hf := hf.kp) | (revert H; refine x_s ?_; intro w1 hf H; clear hf))
  (refine x_c H (prefix_any _ [] 45 (b := false) (hid rfl)) ?_; clear H; rintro e w1 ⟨rfl, hF⟩ H; replace hF := hF.kp)
  go_wp2_with (first | refine x_e (ev_strEq0 rfl rfl rfl (by assumption)) ?_ | refine x_e (ev_strNe0 rfl rfl rfl (by assumption)) ?_ | refine x_q H ?_ | refine x_cm (fun h => ?_) (fun h => ?_) | refine x_l H ?_ | refine x_e (ev_strLen rfl rfl) ?_ | refine x_e (ev_strHead rfl rfl rfl (by assumption)) ?_ | refine x_e (ev_strTail rfl rfl rfl (by assumption)) ?_ | (revert H; refine xSF ?_; intro w1 H hk) | (revert H; refine x_g ?_; intro g w1 hg hf H; replace hf := hf.kp) | (revert H; refine x_s ?_; intro w1 hf H; clear hf))
  (refine x_c H (prefix_any _ [] 43 (b := false) (hid rfl)) ?_; clear H; rintro e w1 ⟨rfl, hF⟩ H; replace hF := hF.kp)
  go_wp2_with (first | refine x_e (ev_strEq0 rfl rfl rfl (by assumption)) ?_ | refine x_e (ev_strNe0 rfl rfl rfl (by assumption)) ?_ | refine x_q H ?_ | refine x_cm (fun h => ?_) (fun h => ?_) | refine x_l H ?_ | refine x_e (ev_strLen rfl rfl) ?_ | refine x_e (ev_strHead rfl rfl rfl (by assumption)) ?_ | refine x_e (ev_strTail rfl rfl rfl (by assumption)) ?_ | (revert H; refine xSF ?_; intro w1 H hk) | (revert H; refine x_g ?_; intro g w1 hg hf H; replace hf := hf.kp) | (revert H; refine x_s ?_; intro w1 hf H; clear hf))
  refine bodyPost_ret (results_tmp2 rfl _ _ _) rfl ?_
  exact ⟨rfl, H.fr⟩
 | cons c r =>
  have HT : Hid ((c :: r).drop (1 : Int).toNat = r) := hid rfl
  have hl : (c :: r).length = r.length + 1 := rfl
  by_cases h1 : c = 45
  ·subst h1
   go_enter Tryz.func36, Tryz.ntmps36
   go_wp2_with (first | refine x_e (ev_strEq0 rfl rfl rfl (by assumption)) ?_ | refine x_e (ev_strNe0 rfl rfl rfl (by assumption)) ?_ | refine x_q H ?_ | refine x_cm (fun h => ?_) (fun h => ?_) | refine x_l H ?_ | refine x_e (ev_strLen rfl rfl) ?_ | refine x_e (ev_strHead rfl rfl rfl (by assumption)) ?_ | refine x_e (ev_strTail rfl rfl rfl (by assumption)) ?_ | (revert H; refine xSF ?_; intro w1 H hk) | (revert H; refine x_g ?_; intro g w1 hg hf H; replace hf := hf.kp) | (revert H; refine x_s ?_; intro w1 hf H; clear hf))
   (refine x_c H (prefix_any _ (45 :: r) 45 (b := true) (hid (by simp))) ?_; clear H; rintro e w1 ⟨rfl, hF⟩ H; replace hF := hF.kp)
   go_wp2_with (first | refine x_e (ev_strEq0 rfl rfl rfl (by assumption)) ?_ | refine x_e (ev_strNe0 rfl rfl rfl (by assumption)) ?_ | refine x_q H ?_ | refine x_cm (fun h => ?_) (fun h => ?_) | refine x_l H ?_ | refine x_e (ev_strLen rfl rfl) ?_ | refine x_e (ev_strHead rfl rfl rfl (by assumption)) ?_ | refine x_e (ev_strTail rfl rfl rfl (by assumption)) ?_ | (revert H; refine xSF ?_; intro w1 H hk) | (revert H; refine x_g ?_; intro g w1 hg hf H; replace hf := hf.kp) | (revert H; refine x_s ?_; intro w1 hf H; clear hf))
   (revert H; refine w_pF 7 (.st 0 (.st 1 (.st 2 (.st 3 (.st 4 (.st 5 (.st 6 .done))))))) ?_; intro w1 hf H; (first | replace hf := hf.kp | clear hf))
   refine p_q ?_
   (refine p_e rfl (fun w H => ev_strIdx rfl rfl rfl (by decide) (b := 45) rfl) ?_)
   (refine p_e rfl (fun w H => ev_cmpT rfl rfl rfl rfl (by show ((45 : UInt8).toNat : Int) = 45; decide)) ?_)
   refine p_q ?_
   (refine p_e rfl (fun w H => ev_strTail rfl rfl rfl HT) ?_)
   iterate 2 refine p_q ?_
   (refine pl_done ?_)
   all_goals
    go_wp2_with (first | refine x_e (ev_strEq0 rfl rfl rfl (by assumption)) ?_ | refine x_e (ev_strNe0 rfl rfl rfl (by assumption)) ?_ | refine x_q H ?_ | refine x_cm (fun h => ?_) (fun h => ?_) | refine x_l H ?_ | refine x_e (ev_strLen rfl rfl) ?_ | refine x_e (ev_strHead rfl rfl rfl (by assumption)) ?_ | refine x_e (ev_strTail rfl rfl rfl (by assumption)) ?_ | (revert H; refine xSF ?_; intro w1 H hk) | (revert H; refine x_g ?_; intro g w1 hg hf H; replace hf := hf.kp) | (revert H; refine x_s ?_; intro w1 hf H; clear hf))
    refine bodyPost_ret (results_tmp2 rfl _ _ _) rfl ?_
    exact ⟨rfl, H.fr⟩
  ·by_cases h2 : c = 43
   ·subst h2
    go_enter Tryz.func36, Tryz.ntmps36
    go_wp2_with (first | refine x_e (ev_strEq0 rfl rfl rfl (by assumption)) ?_ | refine x_e (ev_strNe0 rfl rfl rfl (by assumption)) ?_ | refine x_q H ?_ | refine x_cm (fun h => ?_) (fun h => ?_) | refine x_l H ?_ | refine x_e (ev_strLen rfl rfl) ?_ | refine x_e (ev_strHead rfl rfl rfl (by assumption)) ?_ | refine x_e (ev_strTail rfl rfl rfl (by assumption)) ?_ | (revert H; refine xSF ?_; intro w1 H hk) | (revert H; refine x_g ?_; intro g w1 hg hf H; replace hf := hf.kp) | (revert H; refine x_s ?_; intro w1 hf H; clear hf))
    (refine x_c H (prefix_any _ (43 :: r) 45 (b := false) (hid (by simp))) ?_; clear H; rintro e w1 ⟨rfl, hF⟩ H; replace hF := hF.kp)
    go_wp2_with (first | refine x_e (ev_strEq0 rfl rfl rfl (by assumption)) ?_ | refine x_e (ev_strNe0 rfl rfl rfl (by assumption)) ?_ | refine x_q H ?_ | refine x_cm (fun h => ?_) (fun h => ?_) | refine x_l H ?_ | refine x_e (ev_strLen rfl rfl) ?_ | refine x_e (ev_strHead rfl rfl rfl (by assumption)) ?_ | refine x_e (ev_strTail rfl rfl rfl (by assumption)) ?_ | (revert H; refine xSF ?_; intro w1 H hk) | (revert H; refine x_g ?_; intro g w1 hg hf H; replace hf := hf.kp) | (revert H; refine x_s ?_; intro w1 hf H; clear hf))
    (refine x_c H (prefix_any _ (43 :: r) 43 (b := true) (hid (by simp))) ?_; clear H; rintro e w1 ⟨rfl, hF⟩ H; replace hF := hF.kp)
    go_wp2_with (first | refine x_e (ev_strEq0 rfl rfl rfl (by assumption)) ?_ | refine x_e (ev_strNe0 rfl rfl rfl (by assumption)) ?_ | refine x_q H ?_ | refine x_cm (fun h => ?_) (fun h => ?_) | refine x_l H ?_ | refine x_e (ev_strLen rfl rfl) ?_ | refine x_e (ev_strHead rfl rfl rfl (by assumption)) ?_ | refine x_e (ev_strTail rfl rfl rfl (by assumption)) ?_ | (revert H; refine xSF ?_; intro w1 H hk) | (revert H; refine x_g ?_; intro g w1 hg hf H; replace hf := hf.kp) | (revert H; refine x_s ?_; intro w1 hf H; clear hf))
    (revert H; refine w_pF 7 (.st 0 (.st 1 (.st 2 (.st 3 (.st 4 (.st 5 (.st 6 .done))))))) ?_; intro w1 hf H; (first | replace hf := hf.kp | clear hf))
    refine p_q ?_
    (refine p_e rfl (fun w H => ev_strIdx rfl rfl rfl (by decide) (b := 43) rfl) ?_)
    (refine p_e rfl (fun w H => ev_cmpF rfl rfl rfl rfl (by show ¬ ((43 : UInt8).toNat : Int) = 45; decide)) ?_)
    refine p_q ?_
    (refine p_e rfl (fun w H => ev_strTail rfl rfl rfl HT) ?_)
    iterate 2 refine p_q ?_
    (refine pl_done ?_)
    all_goals
     go_wp2_with (first | refine x_e (ev_strEq0 rfl rfl rfl (by assumption)) ?_ | refine x_e (ev_strNe0 rfl rfl rfl (by assumption)) ?_ | refine x_q H ?_ | refine x_cm (fun h => ?_) (fun h => ?_) | refine x_l H ?_ | refine x_e (ev_strLen rfl rfl) ?_ | refine x_e (ev_strHead rfl rfl rfl (by assumption)) ?_ | refine x_e (ev_strTail rfl rfl rfl (by assumption)) ?_ | (revert H; refine xSF ?_; intro w1 H hk) | (revert H; refine x_g ?_; intro g w1 hg hf H; replace hf := hf.kp) | (revert H; refine x_s ?_; intro w1 hf H; clear hf))
     refine bodyPost_ret (results_tmp2 rfl _ _ _) rfl ?_
     exact ⟨rfl, H.fr⟩
   ·have HD : Hid (dsg (c :: r) = (false, c :: r)) := hid (by rw [dsg, if_neg h1, if_neg h2])
    have H1 : Hid (((c :: r).head? == some 45) = false) := hid (by simpa using h1)
    have H2 : Hid (((c :: r).head? == some 43) = false) := hid (by simpa using h2)
    clear h1 h2 HT
    generalize c :: r = s at *
    go_enter Tryz.func36, Tryz.ntmps36
    go_wp2_with (first | refine x_e (ev_strEq0 rfl rfl rfl (by assumption)) ?_ | refine x_e (ev_strNe0 rfl rfl rfl (by assumption)) ?_ | refine x_q H ?_ | refine x_cm (fun h => ?_) (fun h => ?_) | refine x_l H ?_ | refine x_e (ev_strLen rfl rfl) ?_ | refine x_e (ev_strHead rfl rfl rfl (by assumption)) ?_ | refine x_e (ev_strTail rfl rfl rfl (by assumption)) ?_ | (revert H; refine xSF ?_; intro w1 H hk) | (revert H; refine x_g ?_; intro g w1 hg hf H; replace hf := hf.kp) | (revert H; refine x_s ?_; intro w1 hf H; clear hf))
    (refine x_c H (prefix_any _ s 45 H1) ?_; clear H; rintro e w1 ⟨rfl, hF⟩ H; replace hF := hF.kp)
    go_wp2_with (first | refine x_e (ev_strEq0 rfl rfl rfl (by assumption)) ?_ | refine x_e (ev_strNe0 rfl rfl rfl (by assumption)) ?_ | refine x_q H ?_ | refine x_cm (fun h => ?_) (fun h => ?_) | refine x_l H ?_ | refine x_e (ev_strLen rfl rfl) ?_ | refine x_e (ev_strHead rfl rfl rfl (by assumption)) ?_ | refine x_e (ev_strTail rfl rfl rfl (by assumption)) ?_ | (revert H; refine xSF ?_; intro w1 H hk) | (revert H; refine x_g ?_; intro g w1 hg hf H; replace hf := hf.kp) | (revert H; refine x_s ?_; intro w1 hf H; clear hf))
    (refine x_c H (prefix_any _ s 43 H2) ?_; clear H; rintro e w1 ⟨rfl, hF⟩ H; replace hF := hF.kp)
    go_wp2_with (first | refine x_e (ev_strEq0 rfl rfl rfl (by assumption)) ?_ | refine x_e (ev_strNe0 rfl rfl rfl (by assumption)) ?_ | refine x_q H ?_ | refine x_cm (fun h => ?_) (fun h => ?_) | refine x_l H ?_ | refine x_e (ev_strLen rfl rfl) ?_ | refine x_e (ev_strHead rfl rfl rfl (by assumption)) ?_ | refine x_e (ev_strTail rfl rfl rfl (by assumption)) ?_ | (revert H; refine xSF ?_; intro w1 H hk) | (revert H; refine x_g ?_; intro g w1 hg hf H; replace hf := hf.kp) | (revert H; refine x_s ?_; intro w1 hf H; clear hf))
    refine bodyPost_ret (results_tmp2 rfl _ _ _) rfl ?_
    rw [HD.out]
    exact ⟨rfl, H.fr⟩
theorem small_any (w : World) (l : List UInt8) (hd : l.all dig = true) (hl : l.length ≤ 2000000) :
  Calls Tryz.prog 40 #[strV l] w fun e w' => ∃ z : Int, e = .returned (.tuple #[.int .i64 z, .bool (decide (num l ≤ 99999))]) ∧ (num l ≤ 99999 → z = num l) ∧ Fr [] w w' := by
 have hi := small_iff hd
 have h0 := num_lead l
 have ha := lead_all hd
 have HE : Hid (l.dropWhile (· == 48) = lead l) := hid rfl
 obtain ⟨b, hb⟩ : ∃ b, lead l = b := ⟨_, rfl⟩
 rw [hb] at hi h0 ha HE
 clear hb
 have H := Hp.start [] w
 by_cases h5 : 5 < b.length
 ·have HN : Hid (¬ num l ≤ 99999) := hid (fun h => by have := hi.2 h; omega)
  clear hi h0 ha
  go_enter Tryz.func40, Tryz.ntmps40
  go_wp2_with (first | refine x_e (ev_strEq0 rfl rfl rfl (by assumption)) ?_ | refine x_e (ev_strNe0 rfl rfl rfl (by assumption)) ?_ | refine x_q H ?_ | refine x_cm (fun h => ?_) (fun h => ?_) | refine x_l H ?_ | refine x_e (ev_strLen rfl rfl) ?_ | refine x_e (ev_strHead rfl rfl rfl (by assumption)) ?_ | refine x_e (ev_strTail rfl rfl rfl (by assumption)) ?_ | (revert H; refine xSF ?_; intro w1 H hk) | (revert H; refine x_g ?_; intro g w1 hg hf H; replace hf := hf.kp) | (revert H; refine x_s ?_; intro w1 hf H; clear hf))
  (refine x_c H (trim0_any _ l) ?_; clear H; rintro e w1 ⟨rfl, hF⟩ H; replace hF := hF.kp; rw [HE.out])
  go_wp2_with (first | refine x_e (ev_strEq0 rfl rfl rfl (by assumption)) ?_ | refine x_e (ev_strNe0 rfl rfl rfl (by assumption)) ?_ | refine x_q H ?_ | refine x_cm (fun h => ?_) (fun h => ?_) | refine x_l H ?_ | refine x_e (ev_strLen rfl rfl) ?_ | refine x_e (ev_strHead rfl rfl rfl (by assumption)) ?_ | refine x_e (ev_strTail rfl rfl rfl (by assumption)) ?_ | (revert H; refine xSF ?_; intro w1 H hk) | (revert H; refine x_g ?_; intro g w1 hg hf H; replace hf := hf.kp) | (revert H; refine x_s ?_; intro w1 hf H; clear hf))
  refine bodyPost_ret (results_tmp2 rfl _ _ _) rfl ?_
  exact ⟨0, by rw [decide_eq_false HN.out]; rfl, fun h => absurd h HN.out, H.fr⟩
 ·have HA : Hid ((48 :: b).all dig = true) := hid (by rw [List.all_cons, ha]; rfl)
  have HV : Hid (num (48 :: b) = num l) := hid (by rw [← h0]; show numF 0 (48 :: b) = numF 0 b; rw [numF_cons]; rfl)
  clear hi h0 ha hd
  obtain ⟨z, hz⟩ : ∃ z, num l = z := ⟨_, rfl⟩
  rw [hz] at HV ⊢
  clear hz
  have hl5 : (48 :: b).length ≤ 18 := by rw [List.length_cons]; omega
  have hl9 : ([48] : List UInt8).length + b.length ≤ 1000000000 := by rw [List.length_singleton]; omega
  go_enter Tryz.func40, Tryz.ntmps40
  go_wp2_with (first | refine x_e (ev_strEq0 rfl rfl rfl (by assumption)) ?_ | refine x_e (ev_strNe0 rfl rfl rfl (by assumption)) ?_ | refine x_q H ?_ | refine x_cm (fun h => ?_) (fun h => ?_) | refine x_l H ?_ | refine x_e (ev_strLen rfl rfl) ?_ | refine x_e (ev_strHead rfl rfl rfl (by assumption)) ?_ | refine x_e (ev_strTail rfl rfl rfl (by assumption)) ?_ | (revert H; refine xSF ?_; intro w1 H hk) | (revert H; refine x_g ?_; intro g w1 hg hf H; replace hf := hf.kp) | (revert H; refine x_s ?_; intro w1 hf H; clear hf))
  (refine x_c H (trim0_any _ l) ?_; clear H; rintro e w1 ⟨rfl, hF⟩ H; replace hF := hF.kp; rw [HE.out])
  go_wp2_with (first | refine x_e (ev_strAdd (s := [48]) rfl rfl rfl hl9) ?_ | refine x_q H ?_ | refine x_cm (fun h => ?_) (fun h => ?_) | refine x_e (ev_strLen rfl rfl) ?_ | refine x_e (ev_strHead rfl rfl rfl (by assumption)) ?_ | refine x_e (ev_strTail rfl rfl rfl (by assumption)) ?_)
  (refine x_c H (atoi_any _ (48 :: b) HA (hid (List.cons_ne_nil _ _)) hl5) ?_; clear H; rintro e w1 ⟨rfl, hF⟩ H; replace hF := hF.kp)
  rw [HV.out]
  go_wp2_with (first | refine x_e (ev_strEq0 rfl rfl rfl (by assumption)) ?_ | refine x_e (ev_strNe0 rfl rfl rfl (by assumption)) ?_ | refine x_q H ?_ | refine x_cm (fun h => ?_) (fun h => ?_) | refine x_l H ?_ | refine x_e (ev_strLen rfl rfl) ?_ | refine x_e (ev_strHead rfl rfl rfl (by assumption)) ?_ | refine x_e (ev_strTail rfl rfl rfl (by assumption)) ?_ | (revert H; refine xSF ?_; intro w1 H hk) | (revert H; refine x_g ?_; intro g w1 hg hf H; replace hf := hf.kp) | (revert H; refine x_s ?_; intro w1 hf H; clear hf))
  ·refine bodyPost_ret (results_tmp2 rfl _ _ _) rfl ?_
   exact ⟨z, by rw [decide_eq_true (by omega)]; rfl, fun _ => rfl, H.fr⟩
  ·refine bodyPost_ret (results_tmp2 rfl _ _ _) rfl ?_
   exact ⟨z, by rw [decide_eq_false (by omega)]; rfl, fun _ => rfl, H.fr⟩
def rdE (neg : Bool) (ds : List UInt8) (b : Nat) (s2 : List UInt8) : (Bool × List UInt8 × Int) × Int :=
 if ds = [] then ((false, [], 0), 7) else
 match s2 with
 | [] => ((neg, ds, 0 - (b : Int)), 0)
 | c :: t => if isE c = true then (if (dsg t).2.takeWhile dig = [] ∨ (dsg t).2.dropWhile dig ≠ [] then ((false, [], 0), 7) else
   if num ((dsg t).2.takeWhile dig) ≤ 99999 then ((neg, ds, (if (dsg t).1 then -(num ((dsg t).2.takeWhile dig) : Int) else num ((dsg t).2.takeWhile dig)) - b), 0) else ((false, [], 0), 3)) else ((false, [], 0), 7)
def rdS (s : List UInt8) : (Bool × List UInt8 × Int) × Int :=
 match (dsg s).2.dropWhile dig with
 | [] => rdE (dsg s).1 ((dsg s).2.takeWhile dig ++ []) 0 []
 | c :: t => if c = 46 then rdE (dsg s).1 ((dsg s).2.takeWhile dig ++ t.takeWhile dig) (t.takeWhile dig).length (t.dropWhile dig) else rdE (dsg s).1 ((dsg s).2.takeWhile dig ++ []) 0 (c :: t)
theorem contE_any (w : World) (c : UInt8) {b : Bool} (hb : Hid (isE c = b)) :
  Calls Tryz.prog 39 #[strV [c], .string (ByteArray.mk #[101, 69, 100, 68])] w fun e w' => e = .returned (.bool b) ∧ Fr [] w w' := by
 rw [← hb.out]
 exact containsE_any w c
end Go.Proofs.YtbiohhmpclnpgaaGreatDoor
