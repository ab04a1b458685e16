import Derived.Test.YtbiohhmpclnpgaaGreatDoorXNb4
import Derived.Test.YtbiohhmpclnpgaaGreatDoorProg
import Derived.Shelf.Strings.Trim
import Derived.Shelf.Strings.Cut
import Derived.Shelf.Strings.Prefix
import Derived.Shelf.Small.Wraps
import Derived.Shelf.Strings.Search3
import Derived.Shelf.Slices.Turned
namespace Go.Proofs.YtbiohhmpclnpgaaGreatDoor
open Go.RowKit
set_option linter.unusedSimpArgs false
set_option linter.unusedVariables false
set_option maxHeartbeats 8000000
set_option maxRecDepth 100000
attribute [local irreducible] wpList Code.wp Plan.wp
theorem upper_any (w : World) (s : List UInt8) (hs : s.length ≤ 4000000) :
  Calls Tryz.prog 62 #[strV s] w fun e w' => e = .returned (strV (ups s)) ∧ Fr [] w w' := by
 have H := Hp.start [] w
 go_enter Tryz.func62, Tryz.ntmps62
 go_wp2_with (first | refine x_e (ev_strEq0 rfl rfl rfl (by assumption)) ?_ | refine x_e (ev_strNe0 rfl rfl rfl (by assumption)) ?_ | refine x_q H ?_ | refine x_cm (fun h => ?_) (fun h => ?_) | refine x_l H ?_ | refine x_e (ev_strLen rfl rfl) ?_ | refine x_e (ev_min rfl rfl rfl) ?_ | (revert H; refine x_g ?_; intro g w1 hg hf H; replace hf := hf.kp) | (revert H; refine x_s ?_; intro w1 hf H; clear hf) | (revert H; intro H; refine wl_rw rfl (fun K hK => c_sbM H rfl rfl Tryz.underlying37 Tryz.underlying5 1 (fun g w1 cap hf H1 => hK _ _ ?_)); clear hK K; clear H; have H := H1; clear H1; clear hf; (simp only [nrm, ↓reduceIte, Nat.reduceAdd])))
 go_loopw [10] (fun s10 wr => ∃ (k : Nat) (cur : List UInt8), s10 = .int .i64 (k : Int) ∧ k ≤ s.length ∧ Hid (cur = upk k s) ∧ Hid (cur.length = s.length) ∧ Hp [] w wr [.obj 1 [g] (OwnM (.slice (some ⟨g, 0, none⟩) cur.length cap) cur [g])]) (fun v _ => s.length - (intOf v).toNat)
 case atStart => exact ⟨0, s, rfl, Nat.zero_le _, hid (by simp [upk]), hid rfl, H⟩
 case round =>
  clear H
  obtain ⟨k, cur, rfl, hk, HC, HL, H⟩ := hrel
  by_cases hlt : k < s.length
  ·obtain ⟨c, hc⟩ : ∃ c, s[k]? = some c := ⟨_, List.getElem?_eq_getElem hlt⟩
   have hcc : cur[k]? = some c := by rw [HC.out]; exact upk_get hc
   obtain ⟨n, hn⟩ : ∃ n, c.toNat = n := ⟨_, rfl⟩
   by_cases hu : 97 ≤ n ∧ n ≤ 122
   ·have HC2 := hid (show cur.set k (up1 c) = upk (k + 1) s by rw [HC.out]; exact upk_next hc)
    have HN := hid (up1_up hn hu.1 hu.2)
    obtain ⟨h1, h2⟩ := hu
    go_wp2_with (first | refine x_e (ev_strEq0 rfl rfl rfl (by assumption)) ?_ | refine x_e (ev_strNe0 rfl rfl rfl (by assumption)) ?_ | refine x_q H ?_ | refine x_cm (fun h => ?_) (fun h => ?_) | refine x_l H ?_ | refine x_e (ev_strLen rfl rfl) ?_ | refine x_e (ev_min rfl rfl rfl) ?_ | (revert H; refine x_g ?_; intro g w1 hg hf H; replace hf := hf.kp) | (revert H; refine x_s ?_; intro w1 hf H; clear hf) | refine x_e (c_ldc rfl rfl (OwnM.cell H (.head _) (by assumption))) ?_ | (refine wl_rw rfl (fun K hK => c_stM H (up1 c) rfl rfl rfl (by rw [HN.out]; omega) (by rw [HL.out]; omega) (fun w1 hf H1 => hK _ _ ?_)); clear hK K; clear H; have H := H1; clear H1; clear hf; (simp only [nrm, ↓reduceIte, Nat.reduceAdd])))
    go_roundw
    case rel => exact ⟨k + 1, cur.set k (up1 c), rfl, by omega, HC2, hid (by rw [List.length_set]; exact HL.out), H⟩
    case measure => (simp [intOf]; try omega)
   ·have HC2 := hid (show cur = upk (k + 1) s by rw [HC.out, upk_same hc (up1_id (by rw [hn]; exact hu))])
    have hu2 : n < 97 ∨ (97 ≤ n ∧ 122 < n) := by omega
    clear hu HC
    rcases hu2 with h1 | ⟨h1, h2⟩
    ·go_wp2_with (first | refine x_e (ev_strEq0 rfl rfl rfl (by assumption)) ?_ | refine x_e (ev_strNe0 rfl rfl rfl (by assumption)) ?_ | refine x_q H ?_ | refine x_cm (fun h => ?_) (fun h => ?_) | refine x_l H ?_ | refine x_e (ev_strLen rfl rfl) ?_ | refine x_e (ev_min rfl rfl rfl) ?_ | (revert H; refine x_g ?_; intro g w1 hg hf H; replace hf := hf.kp) | (revert H; refine x_s ?_; intro w1 hf H; clear hf) | refine x_e (c_ldc rfl rfl (OwnM.cell H (.head _) (by assumption))) ?_)
     go_roundw
     case rel => exact ⟨k + 1, cur, rfl, by omega, HC2, HL, H⟩
     case measure => (simp [intOf]; try omega)
    ·go_wp2_with (first | refine x_e (ev_strEq0 rfl rfl rfl (by assumption)) ?_ | refine x_e (ev_strNe0 rfl rfl rfl (by assumption)) ?_ | refine x_q H ?_ | refine x_cm (fun h => ?_) (fun h => ?_) | refine x_l H ?_ | refine x_e (ev_strLen rfl rfl) ?_ | refine x_e (ev_min rfl rfl rfl) ?_ | (revert H; refine x_g ?_; intro g w1 hg hf H; replace hf := hf.kp) | (revert H; refine x_s ?_; intro w1 hf H; clear hf) | refine x_e (c_ldc rfl rfl (OwnM.cell H (.head _) (by assumption))) ?_)
     go_roundw
     case rel => exact ⟨k + 1, cur, rfl, by omega, HC2, HL, H⟩
     case measure => (simp [intOf]; try omega)
  ·have hke : k = s.length := by omega
   have HZ := hid (show cur = ups s by rw [HC.out, hke]; unfold upk ups; simp)
   clear hke HC
   go_wp2_with (first | refine x_e (ev_strEq0 rfl rfl rfl (by assumption)) ?_ | refine x_e (ev_strNe0 rfl rfl rfl (by assumption)) ?_ | refine x_q H ?_ | refine x_cm (fun h => ?_) (fun h => ?_) | refine x_l H ?_ | refine x_e (ev_strLen rfl rfl) ?_ | refine x_e (ev_min rfl rfl rfl) ?_ | (revert H; refine x_g ?_; intro g w1 hg hf H; replace hf := hf.kp) | (revert H; refine x_s ?_; intro w1 hf H; clear hf) | refine x_e (c_bs rfl rfl (OwnM.rdL H (.head _) (by rw [HL.out]))) ?_)
   go_ret
   exact ⟨by first | rfl | (rw [HZ.out]; rfl), H.fr⟩
end Go.Proofs.YtbiohhmpclnpgaaGreatDoor
namespace Go.Proofs
open Go.Shelf
set_option linter.unusedSimpArgs false
set_option linter.unusedVariables false
def Tryz.lays162_ren : Go.Shelf.Ren := ⟨fun | 162 => 29 | 232 => 73 | 227 => 42 | 234 => 74 | 236 => 75 | 228 => 85 | 271 => 117 | 151 => 87 | 120 => 158 | 197 => 86 | 152 => 126 | 260 => 128 | 137 => 169 | 119 => 170 | 224 => 171 | 225 => 172 | 217 => 196 | 266 => 204 | n => n, fun | 9 => 9 | 4 => 4 | 3 => 3 | 5 => 5 | 117 => 93 | 116 => 92 | 0 => 0 | 124 => 96 | 21 => 21 | 105 => 142 | 46 => 43 | 119 => 211 | 139 => 214 | 138 => 213 | n => n, fun | 3 => 1 | 4 => 2 | n => n⟩
theorem Tryz.lays162 : Go.Proofs.Lays.n162 Tryz.prog Tryz.lays162_ren := {
 mixed := by kernel_rfl
 f119 := Tryz.func170.trans (congrArg some (by kernel_rfl))
 f120 := Tryz.func158.trans (congrArg some (by kernel_rfl))
 f137 := Tryz.func169.trans (congrArg some (by kernel_rfl))
 f151 := Tryz.func87.trans (congrArg some (by kernel_rfl))
 f152 := Tryz.func126.trans (congrArg some (by kernel_rfl))
 f162 := Tryz.func29.trans (congrArg some (by kernel_rfl))
 f197 := Tryz.func86.trans (congrArg some (by kernel_rfl))
 f217 := Tryz.func196.trans (congrArg some (by kernel_rfl))
 f224 := Tryz.func171.trans (congrArg some (by kernel_rfl))
 f225 := Tryz.func172.trans (congrArg some (by kernel_rfl))
 f227 := Tryz.func42.trans (congrArg some (by kernel_rfl))
 f228 := Tryz.func85.trans (congrArg some (by kernel_rfl))
 f232 := Tryz.func73.trans (congrArg some (by kernel_rfl))
 f234 := Tryz.func74.trans (congrArg some (by kernel_rfl))
 f236 := Tryz.func75.trans (congrArg some (by kernel_rfl))
 f260 := Tryz.func128.trans (congrArg some (by kernel_rfl))
 f266 := Tryz.func204.trans (congrArg some (by kernel_rfl))
 f271 := Tryz.func117.trans (congrArg some (by kernel_rfl))
 t0 := Tryz.underlying0
 a0 := Tryz.isAgg0
 z0 := Tryz.sizeOf0
 v0 := Tryz.zeroValue0
 t3 := Tryz.underlying3
 a3 := Tryz.isAgg3
 z3 := Tryz.sizeOf3
 v3 := Tryz.zeroValue3
 t4 := Tryz.underlying4
 a4 := Tryz.isAgg4
 z4 := Tryz.sizeOf4
 v4 := Tryz.zeroValue4
 t5 := Tryz.underlying5
 a5 := Tryz.isAgg5
 z5 := Tryz.sizeOf5
 v5 := Tryz.zeroValue5
 t9 := Tryz.underlying9
 a9 := Tryz.isAgg9
 z9 := Tryz.sizeOf9
 v9 := Tryz.zeroValue9
 t21 := Tryz.underlying21
 a21 := Tryz.isAgg21
 z21 := Tryz.sizeOf21
 v21 := Tryz.zeroValue21
 t46 := Tryz.underlying43
 a46 := Tryz.isAgg43
 z46 := Tryz.sizeOf43
 v46 := Tryz.zeroValue43
 t105 := Tryz.underlying142
 a105 := Tryz.isAgg142
 z105 := Tryz.sizeOf142
 v105 := Tryz.zeroValue142
 t116 := Tryz.underlying92
 a116 := Tryz.isAgg92
 z116 := Tryz.sizeOf92
 t117 := Tryz.underlying93
 a117 := Tryz.isAgg93
 z117 := Tryz.sizeOf93
 v117 := Tryz.zeroValue93
 t119 := Tryz.underlying211
 a119 := Tryz.isAgg211
 z119 := Tryz.sizeOf211
 t124 := Tryz.underlying96
 a124 := Tryz.isAgg96
 z124 := Tryz.sizeOf96
 v124 := Tryz.zeroValue96
 t138 := Tryz.underlying213
 a138 := Tryz.isAgg213
 z138 := Tryz.sizeOf213
 v138 := Tryz.zeroValue213
 t139 := Tryz.underlying214
 a139 := Tryz.isAgg214
 z139 := Tryz.sizeOf214
 v139 := Tryz.zeroValue214
 g3 := by kernel_rfl
 g4 := by kernel_rfl }
open Go.RowKit in
theorem Tryz.strings_TrimRight_one (s : ByteArray) (c : UInt8) (hc : c.toNat < 128) (w : World) (hs : s.size ≤ 9223372036854775807) :
  Calls Tryz.prog 29 #[.string s, .string ⟨#[c]⟩] w fun e w' => e = .returned (.string ⟨(Lib.trimRightB s.data.toList c).toArray⟩) ∧ w' = w := Any.strings_TrimRight_one Tryz.lays162 s c hc w hs
def Tryz.lays160_ren : Go.Shelf.Ren := ⟨fun | 160 => 72 | 232 => 73 | 231 => 41 | 227 => 42 | 234 => 74 | 233 => 43 | 236 => 75 | 235 => 44 | 228 => 85 | 271 => 117 | 151 => 87 | 197 => 86 | 120 => 158 | 152 => 126 | 260 => 128 | 137 => 169 | 119 => 170 | 224 => 171 | 225 => 172 | 217 => 196 | 266 => 204 | n => n, fun | 9 => 9 | 4 => 4 | 3 => 3 | 5 => 5 | 117 => 93 | 116 => 92 | 0 => 0 | 124 => 96 | 21 => 21 | 105 => 142 | 46 => 43 | 119 => 211 | 139 => 214 | 138 => 213 | n => n, fun | 3 => 1 | 4 => 2 | n => n⟩
theorem Tryz.lays160 : Go.Proofs.Lays.n160 Tryz.prog Tryz.lays160_ren := {
 mixed := by kernel_rfl
 f119 := Tryz.func170.trans (congrArg some (by kernel_rfl))
 f120 := Tryz.func158.trans (congrArg some (by kernel_rfl))
 f137 := Tryz.func169.trans (congrArg some (by kernel_rfl))
 f151 := Tryz.func87.trans (congrArg some (by kernel_rfl))
 f152 := Tryz.func126.trans (congrArg some (by kernel_rfl))
 f160 := Tryz.func72.trans (congrArg some (by kernel_rfl))
 f197 := Tryz.func86.trans (congrArg some (by kernel_rfl))
 f217 := Tryz.func196.trans (congrArg some (by kernel_rfl))
 f224 := Tryz.func171.trans (congrArg some (by kernel_rfl))
 f225 := Tryz.func172.trans (congrArg some (by kernel_rfl))
 f227 := Tryz.func42.trans (congrArg some (by kernel_rfl))
 f228 := Tryz.func85.trans (congrArg some (by kernel_rfl))
 f231 := Tryz.func41.trans (congrArg some (by kernel_rfl))
 f232 := Tryz.func73.trans (congrArg some (by kernel_rfl))
 f233 := Tryz.func43.trans (congrArg some (by kernel_rfl))
 f234 := Tryz.func74.trans (congrArg some (by kernel_rfl))
 f235 := Tryz.func44.trans (congrArg some (by kernel_rfl))
 f236 := Tryz.func75.trans (congrArg some (by kernel_rfl))
 f260 := Tryz.func128.trans (congrArg some (by kernel_rfl))
 f266 := Tryz.func204.trans (congrArg some (by kernel_rfl))
 f271 := Tryz.func117.trans (congrArg some (by kernel_rfl))
 t0 := Tryz.underlying0
 a0 := Tryz.isAgg0
 z0 := Tryz.sizeOf0
 v0 := Tryz.zeroValue0
 t3 := Tryz.underlying3
 a3 := Tryz.isAgg3
 z3 := Tryz.sizeOf3
 v3 := Tryz.zeroValue3
 t4 := Tryz.underlying4
 a4 := Tryz.isAgg4
 z4 := Tryz.sizeOf4
 v4 := Tryz.zeroValue4
 t5 := Tryz.underlying5
 a5 := Tryz.isAgg5
 z5 := Tryz.sizeOf5
 v5 := Tryz.zeroValue5
 t9 := Tryz.underlying9
 a9 := Tryz.isAgg9
 z9 := Tryz.sizeOf9
 v9 := Tryz.zeroValue9
 t21 := Tryz.underlying21
 a21 := Tryz.isAgg21
 z21 := Tryz.sizeOf21
 v21 := Tryz.zeroValue21
 t46 := Tryz.underlying43
 a46 := Tryz.isAgg43
 z46 := Tryz.sizeOf43
 v46 := Tryz.zeroValue43
 t105 := Tryz.underlying142
 a105 := Tryz.isAgg142
 z105 := Tryz.sizeOf142
 v105 := Tryz.zeroValue142
 t116 := Tryz.underlying92
 a116 := Tryz.isAgg92
 z116 := Tryz.sizeOf92
 t117 := Tryz.underlying93
 a117 := Tryz.isAgg93
 z117 := Tryz.sizeOf93
 v117 := Tryz.zeroValue93
 t119 := Tryz.underlying211
 a119 := Tryz.isAgg211
 z119 := Tryz.sizeOf211
 t124 := Tryz.underlying96
 a124 := Tryz.isAgg96
 z124 := Tryz.sizeOf96
 v124 := Tryz.zeroValue96
 t138 := Tryz.underlying213
 a138 := Tryz.isAgg213
 z138 := Tryz.sizeOf213
 v138 := Tryz.zeroValue213
 t139 := Tryz.underlying214
 a139 := Tryz.isAgg214
 z139 := Tryz.sizeOf214
 v139 := Tryz.zeroValue214
 g3 := by kernel_rfl
 g4 := by kernel_rfl }
open Go.RowKit in
theorem Tryz.strings_Trim_one (s : ByteArray) (c : UInt8) (hc : c.toNat < 128) (w : World) (hs : s.size ≤ 9223372036854775807) :
  Calls Tryz.prog 72 #[.string s, .string ⟨#[c]⟩] w fun e w' => e = .returned (.string ⟨(Lib.trimB s.data.toList c).toArray⟩) ∧ (w' = w ∨ w' = w.drew) := Any.strings_Trim_one Tryz.lays160 s c hc w hs
def Tryz.lays103_ren : Go.Shelf.Ren := ⟨fun | 103 => 150 | 210 => 188 | 206 => 83 | n => n, fun | 9 => 9 | 4 => 4 | 24 => 160 | 3 => 3 | n => n, fun | n => n⟩
theorem Tryz.lays103 : Go.Proofs.Lays.n103 Tryz.prog Tryz.lays103_ren := {
 mixed := by kernel_rfl
 f103 := Tryz.func150.trans (congrArg some (by kernel_rfl))
 f206 := Tryz.func83.trans (congrArg some (by kernel_rfl))
 f210 := Tryz.func188.trans (congrArg some (by kernel_rfl))
 t3 := Tryz.underlying3
 a3 := Tryz.isAgg3
 z3 := Tryz.sizeOf3
 v3 := Tryz.zeroValue3
 t4 := Tryz.underlying4
 a4 := Tryz.isAgg4
 z4 := Tryz.sizeOf4
 v4 := Tryz.zeroValue4
 t9 := Tryz.underlying9
 a9 := Tryz.isAgg9
 z9 := Tryz.sizeOf9
 v9 := Tryz.zeroValue9
 t24 := Tryz.underlying160
 a24 := Tryz.isAgg160
 z24 := Tryz.sizeOf160
 v24 := Tryz.zeroValue160 }
open Go.RowKit in
theorem Tryz.strings_CutPrefix (s p : ByteArray) (w : World) :
  Calls Tryz.prog 150 #[.string s, .string p] w fun e w' => e = .returned (.tuple #[.string ⟨(Lib.trimPrefix s.data.toList p.data.toList).toArray⟩, .bool (Lib.hasPrefix s.data.toList p.data.toList)]) ∧ w' = w := Any.strings_CutPrefix Tryz.lays103 s p w
def Tryz.lays104_ren : Go.Shelf.Ren := ⟨fun | 104 => 151 | 211 => 189 | 207 => 148 | n => n, fun | 9 => 9 | 4 => 4 | 24 => 160 | 3 => 3 | n => n, fun | n => n⟩
theorem Tryz.lays104 : Go.Proofs.Lays.n104 Tryz.prog Tryz.lays104_ren := {
 mixed := by kernel_rfl
 f104 := Tryz.func151.trans (congrArg some (by kernel_rfl))
 f207 := Tryz.func148.trans (congrArg some (by kernel_rfl))
 f211 := Tryz.func189.trans (congrArg some (by kernel_rfl))
 t3 := Tryz.underlying3
 a3 := Tryz.isAgg3
 z3 := Tryz.sizeOf3
 v3 := Tryz.zeroValue3
 t4 := Tryz.underlying4
 a4 := Tryz.isAgg4
 z4 := Tryz.sizeOf4
 v4 := Tryz.zeroValue4
 t9 := Tryz.underlying9
 a9 := Tryz.isAgg9
 z9 := Tryz.sizeOf9
 v9 := Tryz.zeroValue9
 t24 := Tryz.underlying160
 a24 := Tryz.isAgg160
 z24 := Tryz.sizeOf160
 v24 := Tryz.zeroValue160 }
open Go.RowKit in
theorem Tryz.strings_CutSuffix (s p : ByteArray) (w : World) (hs : s.size ≤ 9223372036854775807) :
  Calls Tryz.prog 151 #[.string s, .string p] w fun e w' => e = .returned (.tuple #[.string ⟨(Lib.trimSuffix s.data.toList p.data.toList).toArray⟩, .bool (Lib.hasSuffix s.data.toList p.data.toList)]) ∧ w' = w := Any.strings_CutSuffix Tryz.lays104 s p w hs
def Tryz.lays144_ren : Go.Shelf.Ren := ⟨fun | 144 => 114 | 143 => 147 | 219 => 187 | 217 => 196 | 225 => 172 | 224 => 171 | 267 => 202 | 266 => 204 | 314 => 207 | n => n, fun | 9 => 9 | 4 => 4 | 3 => 3 | 5 => 5 | 46 => 43 | 146 => 197 | 51 => 104 | n => n, fun | 1 => 7 | n => n⟩
theorem Tryz.lays144 : Go.Proofs.Lays.n144 Tryz.prog Tryz.lays144_ren := {
 mixed := by kernel_rfl
 f143 := Tryz.func147.trans (congrArg some (by kernel_rfl))
 f144 := Tryz.func114.trans (congrArg some (by kernel_rfl))
 f217 := Tryz.func196.trans (congrArg some (by kernel_rfl))
 f219 := Tryz.func187.trans (congrArg some (by kernel_rfl))
 f224 := Tryz.func171.trans (congrArg some (by kernel_rfl))
 f225 := Tryz.func172.trans (congrArg some (by kernel_rfl))
 f266 := Tryz.func204.trans (congrArg some (by kernel_rfl))
 f267 := Tryz.func202.trans (congrArg some (by kernel_rfl))
 f314 := Tryz.func207.trans (congrArg some (by kernel_rfl))
 t3 := Tryz.underlying3
 a3 := Tryz.isAgg3
 z3 := Tryz.sizeOf3
 v3 := Tryz.zeroValue3
 t4 := Tryz.underlying4
 a4 := Tryz.isAgg4
 z4 := Tryz.sizeOf4
 v4 := Tryz.zeroValue4
 t5 := Tryz.underlying5
 a5 := Tryz.isAgg5
 z5 := Tryz.sizeOf5
 v5 := Tryz.zeroValue5
 t9 := Tryz.underlying9
 a9 := Tryz.isAgg9
 z9 := Tryz.sizeOf9
 v9 := Tryz.zeroValue9
 t46 := Tryz.underlying43
 a46 := Tryz.isAgg43
 z46 := Tryz.sizeOf43
 v46 := Tryz.zeroValue43
 t51 := Tryz.underlying104
 a51 := Tryz.isAgg104
 z51 := Tryz.sizeOf104
 v51 := Tryz.zeroValue104
 t146 := Tryz.underlying197
 a146 := Tryz.isAgg197
 z146 := Tryz.sizeOf197
 v146 := Tryz.zeroValue197
 g1 := by kernel_rfl }
open Go.RowKit Go.Lib in
theorem Tryz.strings_Contains_one (s : ByteArray) (c : UInt8) (w : World) :
  Calls Tryz.prog 114 #[.string s, .string ⟨#[c]⟩] w fun e w' => e = .returned (.bool (decide (0 ≤ Lib.indexByte s.data.toList c))) ∧ w' = w := Any.strings_Contains_one Tryz.lays144 s c w
open Go.RowKit Go.Lib in
def Tryz.lays101_ren : Go.Shelf.Ren := ⟨fun | 101 => 110 | 208 => 152 | 206 => 83 | n => n, fun | 9 => 9 | 4 => 4 | 3 => 3 | n => n, fun | n => n⟩
theorem Tryz.lays101 : Go.Proofs.Lays.n101 Tryz.prog Tryz.lays101_ren := {
 mixed := by kernel_rfl
 f101 := Tryz.func110.trans (congrArg some (by kernel_rfl))
 f206 := Tryz.func83.trans (congrArg some (by kernel_rfl))
 f208 := Tryz.func152.trans (congrArg some (by kernel_rfl))
 t3 := Tryz.underlying3
 a3 := Tryz.isAgg3
 z3 := Tryz.sizeOf3
 v3 := Tryz.zeroValue3
 t4 := Tryz.underlying4
 a4 := Tryz.isAgg4
 z4 := Tryz.sizeOf4
 v4 := Tryz.zeroValue4
 t9 := Tryz.underlying9
 a9 := Tryz.isAgg9
 z9 := Tryz.sizeOf9
 v9 := Tryz.zeroValue9 }
open Go.RowKit Go.Lib in
theorem Tryz.strings_TrimPrefix (s p : ByteArray) (w : World) :
  Calls Tryz.prog 110 #[.string s, .string p] w fun e w' => e = .returned (.string ⟨(Lib.trimPrefix s.data.toList p.data.toList).toArray⟩) ∧ w' = w := Any.strings_TrimPrefix Tryz.lays101 s p w
def Tryz.lays110_ren : Go.Shelf.Ren := ⟨fun | 110 => 104 | 109 => 149 | n => n, fun | 31 => 41 | 9 => 9 | 4 => 4 | 3 => 3 | 0 => 0 | n => n, fun | n => n⟩
theorem Tryz.lays110 : Go.Proofs.Lays.n110 Tryz.prog Tryz.lays110_ren := {
 mixed := by kernel_rfl
 f109 := Tryz.func149.trans (congrArg some (by kernel_rfl))
 f110 := Tryz.func104.trans (congrArg some (by kernel_rfl))
 t0 := Tryz.underlying0
 a0 := Tryz.isAgg0
 z0 := Tryz.sizeOf0
 v0 := Tryz.zeroValue0
 t3 := Tryz.underlying3
 a3 := Tryz.isAgg3
 z3 := Tryz.sizeOf3
 v3 := Tryz.zeroValue3
 t4 := Tryz.underlying4
 a4 := Tryz.isAgg4
 z4 := Tryz.sizeOf4
 v4 := Tryz.zeroValue4
 t9 := Tryz.underlying9
 a9 := Tryz.isAgg9
 z9 := Tryz.sizeOf9
 v9 := Tryz.zeroValue9
 t31 := Tryz.underlying41
 a31 := Tryz.isAgg41
 z31 := Tryz.sizeOf41
 v31 := Tryz.zeroValue41 }
open Go.Lib in
theorem Tryz.slices_Contains_string (b off n c : Nat) (zs : List ByteArray) (x : ByteArray) (w : World) (hz : n ≤ zs.length) (hbig : n ≤ 9223372036854775807) (hc : ∀ j, j < zs.length → w.cell? ⟨b, off + j, none⟩ = some (.string (zs.getD j ByteArray.empty))) :
  Calls Tryz.prog 104 #[.slice (some ⟨b, off, none⟩) n c, .string x] w fun e w' => e = .returned (.bool (Lib.containsS (zs.take n) x)) ∧ w' = w := Any.slices_Contains_string Tryz.lays110 b off n c zs x w hz hbig hc
end Go.Proofs
namespace Go.Proofs.YtbiohhmpclnpgaaGreatDoor
open Go.RowKit
set_option linter.unusedSimpArgs false
set_option linter.unusedVariables false
set_option maxHeartbeats 8000000
set_option maxRecDepth 100000
attribute [local irreducible] wpList Code.wp Plan.wp
theorem ba_lst (s : List UInt8) : (ByteArray.mk s.toArray).data.toList = s := by simp
theorem trim1_any (w : World) (s : List UInt8) (hs : s.length ≤ 4000000) : Calls Tryz.prog 72 #[strV s, .string (ByteArray.mk #[32])] w fun e w' => e = .returned (strV (blank s)) ∧ Fr [] w w' := by
 refine Calls.mono (Tryz.strings_Trim_one ⟨s.toArray⟩ 32 (by decide) w (by rw [ba_size]; omega)) ?_
 rintro e w' ⟨rfl, rfl | rfl⟩
 ·exact ⟨by rw [ba_lst]; rfl, Fr.refl _ _⟩
 ·exact ⟨by rw [ba_lst]; rfl, Fr.drew _ _⟩
theorem trimR_any (w : World) (s : List UInt8) (hs : s.length ≤ 4000000) : Calls Tryz.prog 29 #[strV s, .string (ByteArray.mk #[32])] w fun e w' => e = .returned (strV (Lib.trimRightB s 32)) ∧ Fr [] w w' := by
 refine Calls.mono (Tryz.strings_TrimRight_one ⟨s.toArray⟩ 32 (by decide) w (by rw [ba_size]; omega)) ?_
 rintro e w' ⟨rfl, rfl⟩
 exact ⟨by rw [ba_lst]; rfl, Fr.refl _ _⟩
theorem cutPre_any (w : World) (s : List UInt8) : Calls Tryz.prog 150 #[strV s, .string (ByteArray.mk #[40])] w fun e w' => e = .returned (.tuple #[strV (Lib.trimPrefix s [40]), .bool (Lib.hasPrefix s [40])]) ∧ Fr [] w w' := by
 refine Calls.mono (Tryz.strings_CutPrefix ⟨s.toArray⟩ ⟨#[40]⟩ w) ?_
 rintro e w' ⟨rfl, rfl⟩
 exact ⟨by rw [ba_lst]; rfl, Fr.refl _ _⟩
theorem cutSuf_any (w : World) (s : List UInt8) (hs : s.length ≤ 4000000) : Calls Tryz.prog 151 #[strV s, .string (ByteArray.mk #[41])] w fun e w' => e = .returned (.tuple #[strV (Lib.trimSuffix s [41]), .bool (Lib.hasSuffix s [41])]) ∧ Fr [] w w' := by
 refine Calls.mono (Tryz.strings_CutSuffix ⟨s.toArray⟩ ⟨#[41]⟩ w (by rw [ba_size]; omega)) ?_
 rintro e w' ⟨rfl, rfl⟩
 exact ⟨by rw [ba_lst]; rfl, Fr.refl _ _⟩
theorem blank_any (w : World) (s : List UInt8) (hs : s.length ≤ 4000000) {r : List UInt8} (hr : Hid (blank s = r)) : Calls Tryz.prog 28 #[strV s] w fun e w' => e = .returned (strV r) ∧ Fr [] w w' := by
 have H := Hp.start [] w
 go_enter Tryz.func28, Tryz.ntmps28
 go_wp2_with (first | refine x_q H ?_ | refine x_cm (fun h => ?_) (fun h => ?_) | refine x_l H ?_ | refine x_e (ev_strLen rfl rfl) ?_ | refine x_e (ev_min rfl rfl rfl) ?_ | (revert H; refine x_g ?_; intro g w1 hg hf H; replace hf := hf.kp) | (revert H; refine x_s ?_; intro w1 hf H; clear hf))
 (refine x_c H (trim1_any _ s hs) ?_; clear H; rintro e w1 ⟨rfl, hF⟩ H; clear hF)
 rw [hr.out]
 go_wp2_with (first | refine x_q H ?_ | refine x_cm (fun h => ?_) (fun h => ?_) | refine x_l H ?_ | refine x_e (ev_strLen rfl rfl) ?_ | refine x_e (ev_min rfl rfl rfl) ?_ | (revert H; refine x_g ?_; intro g w1 hg hf H; replace hf := hf.kp) | (revert H; refine x_s ?_; intro w1 hf H; clear hf))
 go_ret
 exact ⟨rfl, H.fr⟩
theorem ev_strMid {P : Program} {a : Act} {w : World} {o : Oper} {t : TypeId} {x y z : Operand} (ho : o.op = .slice t x (some y) (some z) none) {s r : List UInt8} (hx : a.eval x = strV s) {k k' : IntKind} {i j : Int} (hy : a.eval y = .int k i) (hz : a.eval z = .int k' j) [h : Sy P t] (hr : Hid ((s.take j.toNat).drop i.toNat = r)) (h0 : 0 ≤ i := by omega) (h1 : i ≤ j := by omega) (h2 : j ≤ s.length := by omega) : (execOp a.eval o).run P w = .ok (.value (strV r)) w := by
 rw [← hr.out]
 unfold strV at hx
 have e := run_slice_string (P := P) (w := w) t ⟨s.toArray⟩ k k' i j h.h h0 h1 (by rw [ba_size]; omega)
 rw [ba_extract] at e
 unfold execOp
 simp only [ho, hx, hy, hz, Option.map_none, Option.map_some, Sem.run_bind, run_sliceAt_string _ _ _ _ _ _ h.h, e, Result.andThen_ok, Sem.run_pure]
 rfl
theorem part_any (w : World) (s : List UInt8) (hs : s.length ≤ 4000000) (a b : Nat) (hab : a ≤ b) {r : List UInt8} (hr : Hid (part a b s = r)) : Calls Tryz.prog 30 #[strV s, .int .i64 (a : Int), .int .i64 (b : Int)] w fun e w' => e = .returned (strV r) ∧ Fr [] w w' := by
 have H := Hp.start [] w
 have HR := hid (show (s.take (min (b : Int) (s.length : Int)).toNat).drop (min (a : Int) (s.length : Int)).toNat = r by
  rw [← hr.out, part_eq]
  congr 1
  ·omega
  ·congr 1; omega)
 clear hr
 go_enter Tryz.func30, Tryz.ntmps30
 go_wp2_with (first | refine x_q H ?_ | refine x_cm (fun h => ?_) (fun h => ?_) | refine x_l H ?_ | refine x_e (ev_strLen rfl rfl) ?_ | refine x_e (ev_min rfl rfl rfl) ?_ | (revert H; refine x_g ?_; intro g w1 hg hf H; replace hf := hf.kp) | (revert H; refine x_s ?_; intro w1 hf H; clear hf) | refine x_e (ev_strMid rfl rfl rfl rfl (by assumption)) ?_)
 go_ret
 exact ⟨rfl, H.fr⟩
theorem shortB_any (w : World) (s : List UInt8) (hs : s.length ≤ 4000000) : Calls Tryz.prog 107 #[strV s] w fun e w' => ∃ (n : Nat) (b : Bool), e = .returned (.tuple #[.int .i64 (n : Int), .bool b]) ∧ Fr [] w w' ∧ (b = true → shortP s = some n) ∧ (b = false → shortP s = none) := by
 obtain ⟨n, b, hv0⟩ : ∃ n b, dgts s = (n, b) := ⟨_, _, rfl⟩
 have hv := hid hv0
 have HP : Hid (shortP s = if b = true ∧ s.length ≤ 3 then some n else none) := hid (by unfold shortP; rw [hv0])
 clear hv0
 have H := Hp.start [] w
 go_enter Tryz.func107, Tryz.ntmps107
 go_wp2_with (first | refine x_q H ?_ | refine x_cm (fun h => ?_) (fun h => ?_) | refine x_l H ?_ | refine x_e (ev_strLen rfl rfl) ?_ | refine x_e (ev_min rfl rfl rfl) ?_ | (revert H; refine x_g ?_; intro g w1 hg hf H; replace hf := hf.kp) | (revert H; refine x_s ?_; intro w1 hf H; clear hf))
 (refine x_c H (digits_any _ s hs hv) ?_; clear H; rintro e w1 ⟨rfl, hF⟩ H; clear hF)
 cases b with
 | false =>
  go_wp2_with (first | refine x_q H ?_ | refine x_cm (fun h => ?_) (fun h => ?_) | refine x_l H ?_ | refine x_e (ev_strLen rfl rfl) ?_ | refine x_e (ev_min rfl rfl rfl) ?_ | (revert H; refine x_g ?_; intro g w1 hg hf H; replace hf := hf.kp) | (revert H; refine x_s ?_; intro w1 hf H; clear hf))
  go_ret2
  exact ⟨n, false, rfl, H.fr, (fun h => by simp at h), fun _ => by rw [HP.out]; simp⟩
 | true =>
  by_cases h3 : s.length ≤ 3
  ·go_wp2_with (first | refine x_q H ?_ | refine x_cm (fun h => ?_) (fun h => ?_) | refine x_l H ?_ | refine x_e (ev_strLen rfl rfl) ?_ | refine x_e (ev_min rfl rfl rfl) ?_ | (revert H; refine x_g ?_; intro g w1 hg hf H; replace hf := hf.kp) | (revert H; refine x_s ?_; intro w1 hf H; clear hf))
   go_ret2
   exact ⟨n, true, rfl, H.fr, (fun _ => by rw [HP.out]; simp [h3]), fun h => by simp at h⟩
  ·have h3' : 3 < s.length := by omega
   clear h3
   go_wp2_with (first | refine x_q H ?_ | refine x_cm (fun h => ?_) (fun h => ?_) | refine x_l H ?_ | refine x_e (ev_strLen rfl rfl) ?_ | refine x_e (ev_min rfl rfl rfl) ?_ | (revert H; refine x_g ?_; intro g w1 hg hf H; replace hf := hf.kp) | (revert H; refine x_s ?_; intro w1 hf H; clear hf))
   go_ret2
   exact ⟨n, false, rfl, H.fr, (fun h => by simp at h), fun _ => by rw [HP.out]; simp; omega⟩
theorem inner_any (w : World) (s : List UInt8) (hs : s.length ≤ 4000000) : Calls Tryz.prog 105 #[strV s] w fun e w' => ∃ (r : List UInt8) (b : Bool), e = .returned (.tuple #[strV r, .bool b]) ∧ Fr [] w w' ∧ (b = true → innerP s = some r) ∧ (b = false → innerP s = none) ∧ r.length ≤ s.length := by
 obtain ⟨u, hu0⟩ : ∃ u, ups s = u := ⟨_, rfl⟩
 obtain ⟨p, hp0⟩ : ∃ p, Lib.trimPrefix u [40] = p := ⟨_, rfl⟩
 obtain ⟨q, hq0⟩ : ∃ q, Lib.trimSuffix p [41] = q := ⟨_, rfl⟩
 obtain ⟨b, hb0⟩ : ∃ b, Lib.hasPrefix u [40] = b := ⟨_, rfl⟩
 obtain ⟨c, hc0⟩ : ∃ c, Lib.hasSuffix p [41] = c := ⟨_, rfl⟩
 have hul : u.length = s.length := by rw [← hu0]; simp [ups]
 have hpl : p.length ≤ u.length := by rw [← hp0]; unfold Lib.trimPrefix; split <;> simp
 have hql : q.length ≤ p.length := by rw [← hq0]; unfold Lib.trimSuffix; split <;> simp
 have HI : Hid (innerP s = if b = true ∧ c = true then some q else none) := hid (by unfold innerP; rw [hu0, hp0, hq0, hb0, hc0])
 have H := Hp.start [] w
 have HU := hid hu0; have HP := hid hp0; have HQ := hid hq0; have HB := hid hb0; have HC := hid hc0
 clear hu0 hp0 hq0 hb0 hc0
 go_enter Tryz.func105, Tryz.ntmps105
 go_wp2_with (first | refine x_q H ?_ | refine x_cm (fun h => ?_) (fun h => ?_) | refine x_l H ?_ | refine x_e (ev_strLen rfl rfl) ?_ | refine x_e (ev_min rfl rfl rfl) ?_ | (revert H; refine x_g ?_; intro g w1 hg hf H; replace hf := hf.kp) | (revert H; refine x_s ?_; intro w1 hf H; clear hf))
 (refine x_c H (upper_any _ s hs) ?_; clear H; rintro e w1 ⟨rfl, hF⟩ H; clear hF)
 rw [HU.out]
 go_wp2_with (first | refine x_q H ?_ | refine x_cm (fun h => ?_) (fun h => ?_) | refine x_l H ?_ | refine x_e (ev_strLen rfl rfl) ?_ | refine x_e (ev_min rfl rfl rfl) ?_ | (revert H; refine x_g ?_; intro g w1 hg hf H; replace hf := hf.kp) | (revert H; refine x_s ?_; intro w1 hf H; clear hf))
 (refine x_c H (cutPre_any _ u) ?_; clear H; rintro e w1 ⟨rfl, hF⟩ H; clear hF)
 rw [HP.out, HB.out]
 cases b with
 | false =>
  go_wp2_with (first | refine x_q H ?_ | refine x_cm (fun h => ?_) (fun h => ?_) | refine x_l H ?_ | refine x_e (ev_strLen rfl rfl) ?_ | refine x_e (ev_min rfl rfl rfl) ?_ | (revert H; refine x_g ?_; intro g w1 hg hf H; replace hf := hf.kp) | (revert H; refine x_s ?_; intro w1 hf H; clear hf))
  go_ret2
  exact ⟨[], false, rfl, H.fr, (fun h => by simp at h), (fun _ => by rw [HI.out]; simp), by simp⟩
 | true =>
  go_wp2_with (first | refine x_q H ?_ | refine x_cm (fun h => ?_) (fun h => ?_) | refine x_l H ?_ | refine x_e (ev_strLen rfl rfl) ?_ | refine x_e (ev_min rfl rfl rfl) ?_ | (revert H; refine x_g ?_; intro g w1 hg hf H; replace hf := hf.kp) | (revert H; refine x_s ?_; intro w1 hf H; clear hf))
  (refine x_c H (cutSuf_any _ p (by omega)) ?_; clear H; rintro e w1 ⟨rfl, hF⟩ H; clear hF)
  rw [HQ.out, HC.out]
  go_wp2_with (first | refine x_q H ?_ | refine x_cm (fun h => ?_) (fun h => ?_) | refine x_l H ?_ | refine x_e (ev_strLen rfl rfl) ?_ | refine x_e (ev_min rfl rfl rfl) ?_ | (revert H; refine x_g ?_; intro g w1 hg hf H; replace hf := hf.kp) | (revert H; refine x_s ?_; intro w1 hf H; clear hf))
  go_ret2
  exact ⟨q, c, rfl, H.fr, (fun h => by rw [HI.out, h]; simp), (fun h => by rw [HI.out, h]; simp), by omega⟩
end Go.Proofs.YtbiohhmpclnpgaaGreatDoor
namespace Go.Proofs.YtbiohhmpclnpgaaGreatDoor
open Go.RowKit
set_option linter.unusedSimpArgs false
set_option linter.unusedVariables false
set_option maxHeartbeats 8000000
set_option maxRecDepth 100000
attribute [local irreducible] wpList Code.wp Plan.wp
theorem count_any (w : World) (s : List UInt8) (hs : s.length ≤ 4000000) (a b : Nat) (hab : a ≤ b) :
  Calls Tryz.prog 103 #[strV s, .int .i64 (a : Int), .int .i64 (b : Int)] w fun e w' => ∃ (n : Nat) (o : Bool), e = .returned (.tuple #[.int .i64 (n : Int), .bool o]) ∧ Fr [] w w' ∧ cntP (blank (part a b s)) = (n, o) := by
 obtain ⟨p, hp0⟩ : ∃ p, part a b s = p := ⟨_, rfl⟩
 obtain ⟨x, hx0⟩ : ∃ x, blank p = x := ⟨_, rfl⟩
 have hpl : p.length ≤ s.length := hp0 ▸ part_len a b s
 have hxl : x.length ≤ p.length := hx0 ▸ blank_len p
 obtain ⟨n, d, hv0⟩ : ∃ n d, dgts x = (n, d) := ⟨_, _, rfl⟩
 obtain ⟨z, hz0⟩ : ∃ z, (x == []) = z := ⟨_, rfl⟩
 have HC : Hid (cntP (blank (part a b s)) = if z = true then (0, true) else (n, d && decide (x.length ≤ 9))) := hid (by
  rw [hp0, hx0]; unfold cntP; rw [← hz0, hv0]; simp)
 have HP := hid hp0; have HX := hid hx0; have hv := hid hv0; have hz := hid hz0
 clear hp0 hx0 hv0 hz0
 have H := Hp.start [] w
 go_enter Tryz.func103, Tryz.ntmps103
 go_wp2_with (first | refine x_e (ev_strEq0 rfl rfl rfl (by assumption)) ?_ | refine x_e (ev_strNe0 rfl rfl rfl (by assumption)) ?_ | refine x_q H ?_ | refine x_cm (fun h => ?_) (fun h => ?_) | refine x_l H ?_ | refine x_e (ev_strLen rfl rfl) ?_ | (revert H; refine x_g ?_; intro g w1 hg hf H; replace hf := hf.kp) | (revert H; refine x_s ?_; intro w1 hf H; clear hf))
 (refine x_c H (part_any _ s hs a b hab HP) ?_; clear H; rintro e w1 ⟨rfl, hF⟩ H; clear hF)
 go_wp2_with (first | refine x_e (ev_strEq0 rfl rfl rfl (by assumption)) ?_ | refine x_e (ev_strNe0 rfl rfl rfl (by assumption)) ?_ | refine x_q H ?_ | refine x_cm (fun h => ?_) (fun h => ?_) | refine x_l H ?_ | refine x_e (ev_strLen rfl rfl) ?_ | (revert H; refine x_g ?_; intro g w1 hg hf H; replace hf := hf.kp) | (revert H; refine x_s ?_; intro w1 hf H; clear hf))
 (refine x_c H (blank_any _ p (by omega) HX) ?_; clear H; rintro e w1 ⟨rfl, hF⟩ H; clear hF)
 cases z with
 | true =>
  go_wp2_with (first | refine x_e (ev_strEq0 rfl rfl rfl (by assumption)) ?_ | refine x_e (ev_strNe0 rfl rfl rfl (by assumption)) ?_ | refine x_q H ?_ | refine x_cm (fun h => ?_) (fun h => ?_) | refine x_l H ?_ | refine x_e (ev_strLen rfl rfl) ?_ | (revert H; refine x_g ?_; intro g w1 hg hf H; replace hf := hf.kp) | (revert H; refine x_s ?_; intro w1 hf H; clear hf))
  go_ret2
  exact ⟨0, true, rfl, H.fr, by rw [HC.out]; rfl⟩
 | false =>
  go_wp2_with (first | refine x_e (ev_strEq0 rfl rfl rfl (by assumption)) ?_ | refine x_e (ev_strNe0 rfl rfl rfl (by assumption)) ?_ | refine x_q H ?_ | refine x_cm (fun h => ?_) (fun h => ?_) | refine x_l H ?_ | refine x_e (ev_strLen rfl rfl) ?_ | (revert H; refine x_g ?_; intro g w1 hg hf H; replace hf := hf.kp) | (revert H; refine x_s ?_; intro w1 hf H; clear hf))
  (refine x_c H (digits_any _ x (by omega) hv) ?_; clear H; rintro e w1 ⟨rfl, hF⟩ H; clear hF)
  cases d with
  | false =>
   go_wp2_with (first | refine x_e (ev_strEq0 rfl rfl rfl (by assumption)) ?_ | refine x_e (ev_strNe0 rfl rfl rfl (by assumption)) ?_ | refine x_q H ?_ | refine x_cm (fun h => ?_) (fun h => ?_) | refine x_l H ?_ | refine x_e (ev_strLen rfl rfl) ?_ | (revert H; refine x_g ?_; intro g w1 hg hf H; replace hf := hf.kp) | (revert H; refine x_s ?_; intro w1 hf H; clear hf))
   go_ret2
   exact ⟨n, false, rfl, H.fr, by rw [HC.out]; rfl⟩
  | true =>
   by_cases h9 : x.length ≤ 9
   ·go_wp2_with (first | refine x_e (ev_strEq0 rfl rfl rfl (by assumption)) ?_ | refine x_e (ev_strNe0 rfl rfl rfl (by assumption)) ?_ | refine x_q H ?_ | refine x_cm (fun h => ?_) (fun h => ?_) | refine x_l H ?_ | refine x_e (ev_strLen rfl rfl) ?_ | (revert H; refine x_g ?_; intro g w1 hg hf H; replace hf := hf.kp) | (revert H; refine x_s ?_; intro w1 hf H; clear hf))
    go_ret2
    exact ⟨n, true, rfl, H.fr, by rw [HC.out]; simp [h9]⟩
   ·have h9' : 9 < x.length := by omega
    clear h9
    go_wp2_with (first | refine x_e (ev_strEq0 rfl rfl rfl (by assumption)) ?_ | refine x_e (ev_strNe0 rfl rfl rfl (by assumption)) ?_ | refine x_q H ?_ | refine x_cm (fun h => ?_) (fun h => ?_) | refine x_l H ?_ | refine x_e (ev_strLen rfl rfl) ?_ | (revert H; refine x_g ?_; intro g w1 hg hf H; replace hf := hf.kp) | (revert H; refine x_s ?_; intro w1 hf H; clear hf))
    go_ret2
    exact ⟨n, false, rfl, H.fr, by rw [HC.out]; simp; omega⟩
end Go.Proofs.YtbiohhmpclnpgaaGreatDoor
