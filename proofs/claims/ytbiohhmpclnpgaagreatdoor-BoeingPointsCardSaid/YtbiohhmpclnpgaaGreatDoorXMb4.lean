import Derived.Test.YtbiohhmpclnpgaaGreatDoorXMb0
import Derived.Test.YtbiohhmpclnpgaaGreatDoorXPd1
import Derived.Test.YtbiohhmpclnpgaaGreatDoorXMd0
namespace Go.Proofs.YtbiohhmpclnpgaaGreatDoor
open Go.RowKit
set_option linter.unusedSimpArgs false
set_option linter.unusedVariables false
set_option maxHeartbeats 8000000
set_option maxRecDepth 100000
end Go.Proofs.YtbiohhmpclnpgaaGreatDoor
namespace Go.Proofs.YtbiohhmpclnpgaaGreatDoor
open Go.RowKit
set_option linter.unusedSimpArgs false
set_option linter.unusedVariables false
set_option maxHeartbeats 16000000
set_option maxRecDepth 100000
theorem index_byte (c : UInt8) : ∀ l : List UInt8, Lib.index l [c] = Lib.indexByte l c
 | [] => rfl
 | b :: l => by
  rw [Lib.index, Lib.indexByte, index_byte c l]
  have e : ([c] : List UInt8).isPrefixOf (b :: l) = (b == c) := by
   rw [Bool.beq_comm]; simp [List.isPrefixOf]
  rw [e]
theorem split_nl (w : World) (s : List UInt8) (hs : s.length ≤ 2000000) : Calls Tryz.prog 59 #[strV s, .string (ByteArray.mk #[10])] w fun e w' =>
  ∃ g, e = .returned (.slice (some ⟨g, 0, none⟩) (nl [] s).length (nl [] s).length) ∧ Fr [] w w' ∧ w.heap.size ≤ g ∧ w'.heap[g]? = some (.cells ((nl [] s).map strV).toArray 9 (0, 0)) := by
 have hsz : (ByteArray.mk s.toArray).size = s.length := ba_size s
 have hcount : Lib.countB ⟨s.toArray⟩ ⟨#[10]⟩ = s.count 10 := by
  show Lib.count (ByteArray.mk s.toArray).data.toList [10] = _
  rw [Lib.count_one]
 have hle : s.count 10 ≤ s.length := List.count_le_length
 have hspl : (Lib.splitB ⟨#[10]⟩ 0 (s.count 10) ⟨s.toArray⟩).map (·.data.toList) = nl [] s := by
  rw [Lib.splitB_data]
  exact splitK_nl _ s rfl
 have hlen : (Lib.splitB ⟨#[10]⟩ 0 (s.count 10) ⟨s.toArray⟩).length = s.count 10 + 1 := Lib.splitB_all _ (by decide) 0 _ _ hcount
 have hlen2 : (nl [] s).length = s.count 10 + 1 := by rw [← hspl, List.length_map, hlen]
 have hstr : (Lib.splitB ⟨#[10]⟩ 0 (s.count 10) ⟨s.toArray⟩).map Value.string = (nl [] s).map strV := by
  rw [← hspl, List.map_map]; rfl
 have key := Any.strings_genSplit_core (P := Tryz.prog) (ρ := Tryz.lays146_ren) { Tryz.lays146 with } (by kernel_rfl) ⟨s.toArray⟩ ⟨#[10]⟩ 0 (-1) (s.count 10 + 1) w (by rw [hsz] <;> omega) (by decide) (by decide)
  (fun x c hx => by
   refine Calls.mono (Tryz.strings_Index_one x 10 _) ?_
   rintro e w' ⟨rfl, rfl⟩
   exact ⟨by rw [← index_byte], rfl⟩)
  (by
   refine Calls.mono (Tryz.strings_Count_one ⟨s.toArray⟩ 10 w) ?_
   rintro e w' ⟨rfl, rfl⟩
   refine ⟨?_, rfl⟩
   rw [hcount]
   first | done | rfl) (by decide) (by decide) (by rw [hcount, hsz, if_pos (by decide)]; omega)
 have H := Hp.start [] w
 go_enter Tryz.func59, Tryz.ntmps59
 go_wp2_with fail
 refine Calls.mono key ?_
 rw [Nat.add_sub_cancel, hlen]
 rintro e w' ⟨rfl, rfl⟩
 have hcells : Lib.cellsOf (Lib.splitB ⟨#[10]⟩ 0 (s.count 10) ⟨s.toArray⟩) (s.count 10 + 1) = ((nl [] s).map strV).toArray := by
  rw [← hlen, Lib.cellsOf_full, hstr]
 rw [hcells]
 clear H
 have H := (Hp.start [] w).step (Fr.alloc [] w (.cells ((nl [] s).map strV).toArray 9)) (by simp)
 go_wp2_with fail
 go_ret
 refine ⟨w.heap.size, ?_, H.fr, Nat.le_refl _, heap_alloc_new w _⟩
 rw [hlen2]
 rfl
theorem split_is (w : World) {s : List UInt8} {P : List (List UInt8)} {n : Nat} (h : Hid (nl [] s = P)) (hn : Hid (P.length = n + 1)) (hs : s.length ≤ 2000000) : Calls Tryz.prog 59 #[strV s, .string (ByteArray.mk #[10])] w fun e w' =>
  ∃ g, e = .returned (.slice (some ⟨g, 0, none⟩) (n + 1) (n + 1)) ∧ Fr [] w w' ∧ w.heap.size ≤ g ∧ w'.heap[g]? = some (.cells (P.map strV).toArray 9 (0, 0)) := by
 rw [← hn.out, ← h.out]; exact split_nl w s hs
theorem trimCR (l : List UInt8) : Lib.trimSuffix l [13] = noCR l := by
 unfold Lib.trimSuffix noCR Lib.hasSuffix
 rcases List.eq_nil_or_concat l with rfl | ⟨a, b, rfl⟩
 ·rfl
 ·rw [List.concat_eq_append]
  have e : ([13] : List UInt8).isSuffixOf (a ++ [b]) = (b == 13) := by
   rw [List.isSuffixOf]
   simp [List.isPrefixOf]
   rw [Bool.beq_comm]
  rw [e, List.getLast?_concat, List.dropLast_concat]
  by_cases h : b = 13
  ·simp [h]
  ·simp [h]
theorem trimS_any (w : World) (s : List UInt8) (hs : s.length ≤ 2000000) : Calls Tryz.prog 60 #[strV s, .string (ByteArray.mk #[13])] w fun e w' => e = .returned (strV (noCR s)) ∧ Fr [] w w' := by
 refine Calls.mono (Tryz.strings_TrimSuffix ⟨s.toArray⟩ ⟨#[13]⟩ w (by rw [ba_size]; omega)) ?_
 rintro e w' ⟨rfl, rfl⟩
 refine ⟨?_, Fr.refl _ _⟩
 rw [show (ByteArray.mk s.toArray).data.toList = s by simp]
 show Ending.returned (.string ⟨(Lib.trimSuffix s [13]).toArray⟩) = _
 rw [trimCR]
 rfl
theorem capk_next {ws : List (List UInt8)} {k : Nat} {s : List UInt8} (h : ws[k]? = some s) : (((ws.take k).map noCR ++ ws.drop k).map strV).set k (strV (noCR s)) = ((ws.take (k + 1)).map noCR ++ ws.drop (k + 1)).map strV := by
 obtain ⟨hlt, rfl⟩ := List.getElem?_eq_some_iff.1 h
 rw [← List.map_set, List.set_append_right _ _ (by simp; omega)]
 simp only [List.length_map, List.length_take, Nat.min_eq_left (Nat.le_of_lt hlt), Nat.sub_self]
 rw [List.drop_eq_getElem_cons hlt, List.set_cons_zero, List.take_add_one, h]
 simp only [Option.toList_some, List.map_append, List.map_cons, List.map_nil, List.append_assoc, List.singleton_append]
theorem capk_get {ws : List (List UInt8)} {k : Nat} {s : List UInt8} (h : ws[k]? = some s) : (((ws.take k).map noCR ++ ws.drop k).map strV)[k]? = some (strV s) := by
 obtain ⟨hlt, he⟩ := List.getElem?_eq_some_iff.1 h
 rw [List.getElem?_map, List.getElem?_append_right (by simp; omega)]
 simp only [List.length_map, List.length_take, Nat.min_eq_left (Nat.le_of_lt hlt), Nat.sub_self, List.getElem?_drop, Nat.add_zero]
 rw [h]; rfl
theorem nl_size : ∀ (r cur x : List UInt8), x ∈ nl cur r → x.length ≤ cur.length + r.length
 | [], cur, x, h => by
  unfold nl at h
  rw [List.mem_singleton] at h; subst h; omega
 | b :: r, cur, x, h => by
  unfold nl at h
  rw [List.length_cons]
  split at h
  ·rcases List.mem_cons.1 h with h | h
   ·subst h; omega
   ·have := nl_size r _ x h; rw [List.length_nil] at this; omega
  ·have := nl_size r _ x h; rw [List.length_append, List.length_singleton] at this; omega
theorem nl_count : ∀ (r cur : List UInt8), (nl cur r).length ≤ r.length + 1
 | [], cur => by unfold nl; simp
 | b :: r, cur => by
  unfold nl
  split
  ·have := nl_count r []; rw [List.length_cons, List.length_cons]; omega
  ·have := nl_count r (cur ++ [b]); rw [List.length_cons]; omega
theorem lines_any (w : World) (s : List UInt8) (hs : s.length ≤ 1500000) {v : Value} (hv : Rd w v s.length (bytesV s)) : Calls Tryz.prog 21 #[v] w fun e w' =>
  ∃ g, e = .returned (.slice (some ⟨g, 0, none⟩) (mlines s).length (nl [] s).length) ∧ Fr [] w w' ∧ w.heap.size ≤ g ∧ g < w'.heap.size ∧ ∀ j x, (mlines s)[j]? = some x → w'.cell? ⟨g, j, none⟩ = some (strV x) := by
 have HV := hid hv
 clear hv
 have hml : mlines s = (trimLast (nl [] s)).map noCR := lns_nl s []
 have H := Hp.start [] w
 obtain ⟨P, hP⟩ : ∃ P, nl [] s = P := ⟨_, rfl⟩
 have hPc := nl_count s []
 have HPZ := hid (show ∀ x ∈ P, x.length ≤ 2000000 from fun x hx => Nat.le_trans (nl_size s [] x (hP ▸ hx)) (by rw [List.length_nil]; omega))
 have hPn := nl_ne s []
 rw [hP] at hPc hPn hml
 obtain ⟨n, hn⟩ : ∃ n, P.length = n + 1 := ⟨P.length - 1, by have := List.length_pos_iff.2 hPn; omega⟩
 obtain ⟨z, hz⟩ : ∃ z, P[n]? = some z := ⟨_, List.getElem?_eq_getElem (by omega)⟩
 have hlast : P.getLast? = some z := by rw [List.getLast?_eq_getElem?, hn]; exact hz
 have hzs : (P.map strV)[n]? = some (strV z) := by rw [List.getElem?_map, hz]; rfl
 have hSP := hid hP
 have HCP := hid (show (nl [] s).length = n + 1 by rw [hP]; exact hn)
 go_enter Tryz.func21, Tryz.ntmps21
 go_wp2_with (refine x_e (c_bs rfl rfl HV.out) ?_)
 (have H0 := H; refine Calls.mono (split_is _ hSP (hid hn) (by omega)) ?_; clear H; rintro e w1 ⟨q, rfl, hF, hq, hc⟩; have HQ := hid (Nat.le_trans H0.fr.size hq); have H := H0.bornB hF hq hc; clear H0; clear hF hq hc)
 by_cases hz0 : z = []
 ·have HZ := hid (show (z == []) = true by simp [hz0])
  obtain ⟨m, hm⟩ : ∃ m, n = m := ⟨_, rfl⟩
  have htl : trimLast P = P.take m := by
   unfold trimLast
   rw [hlast, hz0, if_pos rfl, List.dropLast_eq_take, hn, hm]
   rfl
  have HLM := hid (show (mlines s).length = m by rw [hml, htl, List.length_map, List.length_take]; omega)
  have HT := hid (show ∀ (j : Nat) (y : List UInt8), (mlines s)[j]? = some y → ((P.take m).map noCR ++ P.drop m)[j]? = some y by
   intro j y hj
   rw [hml, htl] at hj
   rw [List.getElem?_append_left (List.getElem?_eq_some_iff.1 hj).1]
   exact hj)
  have hzm : (P.map strV)[m]? = some (strV z) := by rw [← hm]; exact hzs
  clear hml htl hP hlast hz hz0 hPn hSP hzm
  subst hm
  go_wp2_with (first | refine x_e (ev_strEq0 rfl rfl rfl (by assumption)) ?_ | refine x_q H ?_)
  go_loopw [23] (fun s23 wr => ∃ (k : Nat) (cs : List Value), s23 = .int .i64 (k : Int) ∧ k ≤ n ∧ cs.length = P.length ∧ Hid (cs = ((P.take k).map noCR ++ P.drop k).map strV) ∧ Hp [] w wr [.blk q cs 9]) (fun v _ => n - (intOf v).toNat)
  case atStart => exact ⟨0, P.map strV, rfl, Nat.zero_le _, by simp, hid (by simp), H⟩
  case round =>
   clear H
   obtain ⟨k, cs, rfl, hk, hcl, HC, H⟩ := hrel
   by_cases hlt : k < n
   ·obtain ⟨x, hx⟩ : ∃ x, P[k]? = some x := ⟨_, List.getElem?_eq_getElem (by omega)⟩
    have hget : cs[k]? = some (strV x) := by rw [HC.out]; exact capk_get hx
    have HC2 := hid (show cs.set k (strV (noCR x)) = ((P.take (k + 1)).map noCR ++ P.drop (k + 1)).map strV by rw [HC.out]; exact capk_next hx)
    have hxl := HPZ.out x (List.mem_of_getElem? hx)
    clear HC
    go_wp2_with (refine x_q H ?_)
    (refine x_c H (trimS_any _ x (by omega)) ?_; clear H; rintro e w1 ⟨rfl, hF⟩ H; clear hF)
    go_wp2_with (first | refine x_q H ?_ | (revert H; refine x_s ?_; intro w1 hf H; clear hf))
    go_roundw
    case rel => exact ⟨k + 1, _, rfl, by omega, by rw [List.length_set]; exact hcl, HC2, H⟩
    case measure => (simp [intOf]; try omega)
   ·have hke : k = n := by omega
    subst hke
    clear hlt
    go_wp2_with (refine x_q H ?_)
    go_ret
    refine ⟨q, ?_, H.fr, HQ.out, H.lt (.head _), ?_⟩
    ·rw [HLM.out, HCP.out]; rfl
    ·intro j y hj
     refine H.blkCell (.head _) ?_
     rw [HC.out, List.getElem?_map, HT.out j y hj]
     rfl
 ·have HZ := hid (show (z == []) = false by simp [hz0])
  obtain ⟨m, hm⟩ : ∃ m, P.length = m := ⟨_, rfl⟩
  have htl : trimLast P = P := by
   unfold trimLast
   rw [hlast, if_neg (by simp [hz0])]
  have HLM := hid (show (mlines s).length = m by rw [hml, htl, List.length_map]; omega)
  have HT := hid (show ∀ (j : Nat) (y : List UInt8), (mlines s)[j]? = some y → ((P.take m).map noCR ++ P.drop m)[j]? = some y by
   intro j y hj
   rw [hml, htl] at hj
   rw [← hm, List.take_length, List.drop_length, List.append_nil]
   exact hj)
  obtain rfl : m = n + 1 := by omega
  clear hml htl hP hlast hz hz0 hPn hSP
  go_wp2_with (first | refine x_e (ev_strEq0 rfl rfl rfl (by assumption)) ?_ | refine x_q H ?_)
  go_loopw [23] (fun s23 wr => ∃ (k : Nat) (cs : List Value), s23 = .int .i64 (k : Int) ∧ k ≤ (n + 1) ∧ cs.length = P.length ∧ Hid (cs = ((P.take k).map noCR ++ P.drop k).map strV) ∧ Hp [] w wr [.blk q cs 9]) (fun v _ => (n + 1) - (intOf v).toNat)
  case atStart => exact ⟨0, P.map strV, rfl, Nat.zero_le _, by simp, hid (by simp), H⟩
  case round =>
   clear H
   obtain ⟨k, cs, rfl, hk, hcl, HC, H⟩ := hrel
   by_cases hlt : k < (n + 1)
   ·obtain ⟨x, hx⟩ : ∃ x, P[k]? = some x := ⟨_, List.getElem?_eq_getElem (by omega)⟩
    have hget : cs[k]? = some (strV x) := by rw [HC.out]; exact capk_get hx
    have HC2 := hid (show cs.set k (strV (noCR x)) = ((P.take (k + 1)).map noCR ++ P.drop (k + 1)).map strV by rw [HC.out]; exact capk_next hx)
    have hxl := HPZ.out x (List.mem_of_getElem? hx)
    clear HC
    go_wp2_with (refine x_q H ?_)
    (refine x_c H (trimS_any _ x (by omega)) ?_; clear H; rintro e w1 ⟨rfl, hF⟩ H; clear hF)
    go_wp2_with (first | refine x_q H ?_ | (revert H; refine x_s ?_; intro w1 hf H; clear hf))
    go_roundw
    case rel => exact ⟨k + 1, _, rfl, by omega, by rw [List.length_set]; exact hcl, HC2, H⟩
    case measure => (simp [intOf]; try omega)
   ·have hke : k = (n + 1) := by omega
    subst hke
    clear hlt
    go_wp2_with (refine x_q H ?_)
    go_ret
    refine ⟨q, ?_, H.fr, HQ.out, H.lt (.head _), ?_⟩
    ·rw [HLM.out, HCP.out]; rfl
    ·intro j y hj
     refine H.blkCell (.head _) ?_
     rw [HC.out, List.getElem?_map, HT.out j y hj]
     rfl
end Go.Proofs.YtbiohhmpclnpgaaGreatDoor
