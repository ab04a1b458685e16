import Derived.Test.YtomggcdmhflboaaGreatDoorXMd7
namespace Go.Proofs.YtomggcdmhflboaaGreatDoor
open Go.RowKit
set_option linter.unusedSimpArgs false
set_option linter.unusedVariables false
set_option maxHeartbeats 8000000
set_option maxRecDepth 100000
attribute [local irreducible] wpList Code.wp Plan.wp stsE mixE pre cntE
def CelR (w : World) (p : Option Addr) (cs : List Value) : Prop := ∀ j u, cs[j]? = some u → ∃ g, p = some ⟨g, 0, none⟩ ∧ w.cell? ⟨g, j, none⟩ = some u
theorem CelR.of {w : World} {p : Option Addr} {cs : List Value} {e : TypeId} {n c sz : Nat} {S : List Nat} (h : RowAt e sz (.slice p n c) n cs S w) : CelR w p cs := by
 intro j u hj
 have hn : 0 < n := by
  rcases Nat.eq_zero_or_pos n with h0 | h0
  ·exfalso
   have := h.1
   rw [h0, Nat.zero_mul] at this
   rw [List.eq_nil_of_length_eq_zero this] at hj
   simp at hj
  ·exact h0
 obtain ⟨g, c', he, _⟩ := h.some hn
 cases he
 exact ⟨g, rfl, h.cell hj⟩
theorem CelR.fr {w w' : World} {p : Option Addr} {cs : List Value} (h : CelR w p cs) (k : Fr [] w w') : CelR w' p cs := by
 intro j u hj
 obtain ⟨g, hg, hc⟩ := h j u hj
 exact ⟨g, hg, k.cell hc (by simp)⟩
theorem CelR.at {w : World} {g : Nat} {cs : List Value} (h : CelR w (some ⟨g, 0, none⟩) cs) {j : Nat} {u : Value} (hj : cs[j]? = some u) : w.cell? ⟨g, j, none⟩ = some u := by
 obtain ⟨g', hg, hc⟩ := h j u hj
 cases hg
 exact hc
theorem CelR.some {w : World} {p : Option Addr} {cs : List Value} (h : CelR w p cs) (hn : 0 < cs.length) : ∃ g, p = some ⟨g, 0, none⟩ := by
 obtain ⟨g, hg, _⟩ := h 0 _ (List.getElem?_eq_getElem hn)
 exact ⟨g, hg⟩
theorem issorted_any (w : World) {p : Option Addr} {n c : Nat} (xs : List Nat) (hn : xs.length = n) (h1 : 1 ≤ n) (hn2 : n ≤ 100000) (hs : xs.Pairwise (· ≤ ·)) (hR : CelR w p (xs.map iV)) :
  Calls Tryz.prog 98 #[.slice p n c] w fun e w' => e = .returned (.bool true) ∧ Fr [] w w' := by
 obtain ⟨g, rfl⟩ := hR.some (by rw [List.length_map]; omega)
 have HR := hid hR
 have HS := hid hs
 have HN := hid hn
 clear hR hs hn
 have H := Hp.start [] w
 go_enter Tryz.func98, Tryz.ntmps98
 go_wp2_with fail
 go_loopw [3] (fun s3 wr => ∃ z : Int, s3 = .int .i64 z ∧ 0 ≤ z ∧ z < n ∧ Hp [] w wr []) (fun v _ => (intOf v).toNat)
 case atStart => exact ⟨(n : Int) - 1, rfl, by omega, by omega, H⟩
 case round =>
  clear H
  obtain ⟨z, rfl, hz0, hzn, H⟩ := hrel
  by_cases hlt : 0 < z
  ·obtain ⟨i, hi⟩ : ∃ i : Nat, z = ((i + 1 : Nat) : Int) := ⟨(z - 1).toNat, by omega⟩
   have HZ := hid hi
   have HZ1 := hid (show z - 1 = (i : Int) by omega)
   have hin : i + 1 < n := by omega
   clear hi
   obtain ⟨x, hx⟩ : ∃ x, xs[i]? = some x := ⟨_, List.getElem?_eq_getElem (by rw [HN.out]; omega)⟩
   obtain ⟨y, hy⟩ : ∃ x, xs[i + 1]? = some x := ⟨_, List.getElem?_eq_getElem (by rw [HN.out]; omega)⟩
   have hxy : x ≤ y := by
    have e1 := List.getElem?_eq_some_iff.1 hx
    have e2 := List.getElem?_eq_some_iff.1 hy
    have := List.pairwise_iff_getElem.1 HS.out i (i + 1) e1.1 e2.1 (by omega)
    rw [e1.2, e2.2] at this
    exact this
   have HX := hid (HR.out.at (show (xs.map iV)[i]? = some (.int .i64 (x : Int)) by rw [List.getElem?_map, hx]; rfl))
   have HY := hid (HR.out.at (show (xs.map iV)[i + 1]? = some (.int .i64 (y : Int)) by rw [List.getElem?_map, hy]; rfl))
   have HB := hid (show decide ((y : Int) < (x : Int)) = false by simp; omega)
   clear hx hy
   go_wp2_with (refine x_q H ?_)
   (revert H; refine w_p 9 (.st 0 (.st 1 (.st 2 (.st 3 (.st 4 (.st 5 (.st 6 (.st 7 (.st 8 (.ld 9 .done)))))))))) ?_; intro w1 H)
   iterate 2 refine p_q ?_
   (refine p_e rfl (fun w H => ev_ixE (i + 1) (i + 1) rfl rfl rfl HZ) ?_)
   (refine p_e rfl (fun w H => c_ldc rfl rfl (H.fr.cell HY.out (by simp))) ?_)
   iterate 3 refine p_q ?_
   (refine p_e rfl (fun w H => ev_ixE i i rfl rfl rfl HZ1) ?_)
   (refine p_e rfl (fun w H => c_ldc rfl rfl (H.fr.cell HX.out (by simp))) ?_)
   ((refine p_c H rfl rfl Tryz.func101 (less_any _ y x HB) ?_; clear H; rintro e w1 ⟨rfl, hF⟩ H; refine p_r ?_; clear hF))
   (refine pl_done ?_)
   go_wp2_with fail
   go_roundw
   case rel => exact ⟨z - 1, rfl, by omega, by omega, H⟩
   case measure => (simp [intOf]; try omega)
  ·go_wp2_with (refine x_q H ?_)
   go_ret
   exact ⟨rfl, H.fr⟩
set_option maxHeartbeats 32000000 in
theorem columns_any (w : World) (rows cols N : Nat) (hr2 : rows ≤ 200) (hc2 : cols ≤ 200) {p1 p2 p3 : Option Addr} {c1 c2 c3 : Nat} (S : List En) (hN : S.length = N) (hN2 : N ≤ 10000) (hNc : N ≤ c2) (hs : S.Pairwise ltE) (hb : ∀ x ∈ S, x.1 < rows ∧ x.2.1 < cols) (hne : ∀ j, j < cols → 0 < cntE S j) (hR1 : CelR w p1 (((List.range (cols + 1)).map (pre S)).map iV)) (hR2 : CelR w p2 ((S.map (·.1)).map iV)) :
  Calls Tryz.prog 65 #[.agg #[iV rows, iV cols, .slice p1 (cols + 1) c1, .slice p2 N c2, .slice p3 N c3]] w fun e w' => e = .returned (.bool true) ∧ Fr [] w w' := by
 obtain ⟨ga, rfl⟩ := hR1.some (by simp)
 have HR1 := hid hR1
 have HR2 := hid hR2
 have HS := hid hs
 have HN := hid hN
 have HB := hid hb
 have HNE := hid hne
 have HM := hid (show ((List.range (cols + 1)).map (pre S)).Pairwise (· ≤ ·) by
  rw [List.pairwise_map]
  exact List.pairwise_lt_range.imp fun h => pre_mono S (Nat.le_of_lt h))
 have H0 := hid (HR1.out.at (show _ = some (.int .i64 0) by rw [stE_at (Nat.zero_le _), pre_zero]; rfl))
 have HL := hid (HR1.out.at (show _ = some (.int .i64 (N : Int)) by rw [stE_at (Nat.le_refl _), pre_all (fun x hx => (hb x hx).2), hN]))
 have HC1 := hid (show (cols : Int) + 1 = ((cols + 1 : Nat) : Int) by omega)
 clear hR1 hR2 hs hN hb hne
 have H := Hp.start [] w
 unfold iV
 go_enter Tryz.func65, Tryz.ntmps65
 go_wp2_with (revert H; refine x_g ?_; (first | (have hh := g5; clear hh; intro g6 w1 hg hf H) | (have hh := g4; clear hh; intro g5 w1 hg hf H) | (have hh := g3; clear hh; intro g4 w1 hg hf H) | (have hh := g2; clear hh; intro g3 w1 hg hf H) | (have hh := g1; clear hh; intro g2 w1 hg hf H) | (have hh := g0; clear hh; intro g1 w1 hg hf H) | intro g0 w1 hg hf H); (first | replace hf := hf.kp | clear hf))
 (revert H; refine w_p 41 (.st 0 (.st 1 (.st 2 (.st 3 (.st 4 (.st 5 (.st 6 (.st 7 (.st 8 (.st 9 (.st 10 (.st 11 (.st 12 (.st 13 (.st 14 (.st 15 (.st 16 (.ld 17 (.st 18 (.st 19 (.st 20 (.st 21 (.st 22 (.st 23 (.st 24 (.st 25 (.st 26 (.st 27 (.st 28 (.st 29 (.st 30 (.st 31 (.st 32 (.st 33 (.st 34 (.st 35 (.st 36 (.st 37 (.st 38 (.st 39 (.st 40 .done))))))))))))))))))))))))))))))))))))))))) ?_; intro w1 H)
 iterate 6 refine p_q ?_
 (refine p_e rfl (fun w H => ev_cmpF rfl rfl rfl rfl (by simp only [cmpP]; omega)) ?_)
 refine p_q ?_
 iterate 3 (first | refine p_q ?_ | refine p_n ?_)
 (first | refine p_e rfl (fun w H => c_ldc rfl rfl (H.fr.cell H0.out (by simp))) ?_ | refine p_n ?_)
 (first | refine p_q ?_ | refine p_n ?_)
 iterate 2 refine p_q ?_
 iterate 2 (first | refine p_q ?_ | refine p_n ?_)
 ((first | (refine p_c H rfl rfl Tryz.func98 (issorted_any _ ((List.range (cols + 1)).map (pre S)) (by simp) (by omega) (by omega) HM.out (HR1.out.fr H.fr)) ?_; clear H; rintro e w1 ⟨rfl, hF⟩ H; refine p_r ?_; clear hF) | refine p_n ?_))
 (first | refine p_q ?_ | refine p_n ?_)
 iterate 2 refine p_q ?_
 iterate 4 (first | refine p_q ?_ | refine p_n ?_)
 (first | refine p_e rfl (fun w H => ev_ixE cols cols rfl rfl rfl (hid rfl)) ?_ | refine p_n ?_)
 (first | refine p_e rfl (fun w H => c_ldc rfl rfl (H.fr.cell HL.out (by simp))) ?_ | refine p_n ?_)
 iterate 4 (first | refine p_q ?_ | refine p_n ?_)
 iterate 2 refine p_q ?_
 iterate 7 (first | refine p_q ?_ | refine p_n ?_)
 refine p_q ?_
 (refine pl_done ?_)
 go_wp2_with (refine x_q H ?_)
 go_loopw [50] (fun s50 wr => ∃ j : Nat, s50 = .int .i64 (j : Int) ∧ j ≤ cols ∧ Hp [] w wr [.blk g0 [.int .i64 (rows : Int), .int .i64 (cols : Int), .slice (some ⟨ga, 0, none⟩) (cols + 1) c1, .slice p2 N c2, .slice p3 N c3] 28]) (fun v _ => cols - (intOf v).toNat)
 case atStart => exact ⟨0, rfl, Nat.zero_le _, H.arr (by repeat (first | exact Pm.nil _ | (apply Pm.cons; · (repeat first | exact Rm.here _ | apply Rm.there))))⟩
 case round =>
  clear H
  obtain ⟨j, rfl, hj, H⟩ := hrel
  by_cases hlt : j < cols
  ·have hpn := pre_succ S j
   have hple := pre_le S (j + 1)
   have hcpos := HNE.out j hlt
   rw [HN.out] at hple
   obtain ⟨A, hA⟩ : ∃ A, pre S j = A := ⟨_, rfl⟩
   obtain ⟨C, hC⟩ : ∃ C, cntE S j = C := ⟨_, rfl⟩
   obtain ⟨Bn, hBn⟩ : ∃ Bn, pre S (j + 1) = Bn := ⟨_, rfl⟩
   have hs1 := hid (HR1.out.at (show _ = some (.int .i64 (A : Int)) by rw [← hA]; exact stE_at (by omega)))
   have hs2 := hid (HR1.out.at (show _ = some (.int .i64 (Bn : Int)) by rw [← hBn]; exact stE_at (by omega)))
   have hrows := sorted_rows HS.out j
   rw [hA, hC] at hrows hpn
   rw [hBn] at hpn hple
   rw [hC] at hcpos
   have HROW := hid hrows
   have HPN := hid hpn
   have hC10 : C ≤ 10000 := by omega
   obtain ⟨g2', hg2⟩ := HR2.out.some (by rw [List.length_map, List.length_map, HN.out]; omega)
   subst hg2
   have HJ1 := hid (show (j : Int) + 1 = ((j + 1 : Nat) : Int) by omega)
   have hlen : (((S.drop A).take C).map (·.1)).length = C := by rw [List.length_map, List.length_take, List.length_drop, HN.out]; omega
   have HLEN := hid hlen
   have HCE := hid (fun (k x : Nat) (hk : (((S.drop A).take C).map (·.1))[k]? = some x) => show w.cell? ⟨g2', A + k, none⟩ = some (.int .i64 (x : Int)) ∧ x < rows from by
    have hkl := (List.getElem?_eq_some_iff.1 hk).1
    rw [hlen] at hkl
    rw [List.getElem?_map, List.getElem?_take_of_lt (by omega), List.getElem?_drop] at hk
    obtain ⟨y, hy, rfl⟩ := Option.map_eq_some_iff.1 hk
    exact ⟨HR2.out.at (by rw [List.getElem?_map, List.getElem?_map, hy]; rfl), (HB.out y (List.mem_of_getElem? hy)).1⟩)
   clear hrows hpn hA hC hBn hlen
   go_wp2_with (refine x_q H ?_)
   (revert H; refine w_p 16 (.st 0 (.st 1 (.st 2 (.st 3 (.st 4 (.st 5 (.st 6 (.st 7 (.st 8 (.st 9 (.st 10 (.st 11 (.st 12 (.st 13 (.st 14 (.st 15 .done)))))))))))))))) ?_; intro w1 H)
   iterate 5 refine p_q ?_
   (refine p_e rfl (fun w H => ev_ixE j j rfl rfl rfl (hid rfl)) ?_)
   (refine p_e rfl (fun w H => c_ldc rfl rfl (H.fr.cell hs1.out (by simp))) ?_)
   iterate 4 refine p_q ?_
   (refine p_e rfl (fun w H => ev_ixE (j + 1) (j + 1) rfl rfl rfl HJ1) ?_)
   (refine p_e rfl (fun w H => c_ldc rfl rfl (H.fr.cell hs2.out (by simp))) ?_)
   (refine p_e rfl (fun w H => ev_cut rfl rfl rfl rfl C (by have := HPN.out; omega) (by omega) (by have := HPN.out; omega)) ?_)
   iterate 2 refine p_q ?_
   (refine pl_done ?_)
   go_wp2_with fail
   go_loopw [4, 68] (fun s4 s68 wr => ∃ (k : Nat) (z : Int), s4 = .int .i64 z ∧ s68 = .int .i64 (k : Int) ∧ k ≤ C ∧ Hid (∀ x, (((S.drop A).take C).map (·.1))[k]? = some x → z < (x : Int)) ∧ Hp [] w wr [.blk g0 [.int .i64 (rows : Int), .int .i64 (cols : Int), .slice (some ⟨ga, 0, none⟩) (cols + 1) c1, .slice (some ⟨g2', 0, none⟩) N c2, .slice p3 N c3] 28]) (fun _ v _ => C - (intOf v).toNat)
   case atStart => exact ⟨0, -1, rfl, rfl, Nat.zero_le _, hid (fun x _ => by omega), H.arr (by repeat (first | exact Pm.nil _ | (apply Pm.cons; · (repeat first | exact Rm.here _ | apply Rm.there))))⟩
   case round =>
    clear H
    obtain ⟨k, z, rfl, rfl, hk, HZ, H⟩ := hrel
    by_cases hlt2 : k < C
    ·obtain ⟨x, hx⟩ : ∃ x, (((S.drop A).take C).map (·.1))[k]? = some x := ⟨_, List.getElem?_eq_getElem (by rw [HLEN.out]; exact hlt2)⟩
     have hzx := HZ.out x hx
     have hcx := HCE.out k x hx
     have hxr := hcx.2
     have HCX := hid hcx.1
     have HZ2 := hid (fun (y : Nat) (hy : (((S.drop A).take C).map (·.1))[k + 1]? = some y) => show (x : Int) < (y : Int) from by
      have e1 := List.getElem?_eq_some_iff.1 hx
      have e2 := List.getElem?_eq_some_iff.1 hy
      have := List.pairwise_iff_getElem.1 HROW.out k (k + 1) e1.1 e2.1 (by omega)
      rw [e1.2, e2.2] at this
      omega)
     clear hx hcx HZ
     go_wp2_with (first | refine x_e (ev_ixE k (A + k) rfl rfl rfl (hid rfl)) ?_ | refine x_e (c_ldc rfl rfl (H.fr.cell HCX.out (by simp))) ?_ | refine x_q H ?_)
     go_roundw
     case rel => exact ⟨k + 1, (x : Int), rfl, rfl, by omega, HZ2, H.arr (by repeat (first | exact Pm.nil _ | (apply Pm.cons; · (repeat first | exact Rm.here _ | apply Rm.there))))⟩
     case measure => (simp [intOf]; try omega)
    ·go_wp2_with (refine x_q H ?_)
     go_roundw
     case rel => exact ⟨j + 1, rfl, by omega, H.arr (by repeat (first | exact Pm.nil _ | (apply Pm.cons; · (repeat first | exact Rm.here _ | apply Rm.there))))⟩
     case measure => (simp [intOf]; try omega)
  ·go_wp2_with (refine x_q H ?_)
   go_ret
   exact ⟨rfl, H.fr⟩
theorem checkOne_any (w : World) {b : Nat} (hb : b < 18446744073709551616) (hf : finF b = true) : Calls Tryz.prog 67 #[.int .u64 (b : Int)] w fun e w' => e = .returned (.bool false) ∧ Fr [] w w' := by
 have H := Hp.start [] w
 have HF := hid hf
 clear hf
 go_enter Tryz.func67, Tryz.ntmps67
 go_wp2_with fail
 (refine x_c H (isFin_any _ hb HF) ?_; clear H; rintro e w1 ⟨rfl, hF⟩ H; clear hF)
 go_wp2_with fail
 go_ret
 exact ⟨rfl, H.fr⟩
theorem indexF_any (w : World) {p : Option Addr} {n c : Nat} (vl : List Nat) (hn : vl.length = n) (hn2 : n ≤ 100000) (hv : ∀ x ∈ vl, x < 18446744073709551616 ∧ finF x = true) (hR : CelR w p (vl.map uV)) :
  Calls Tryz.prog 99 #[.slice p n c, .func (.func 67) #[] #[]] w fun e w' => e = .returned (.int .i64 (-1 : Int)) ∧ Fr [] w w' := by
 have HR := hid hR
 have HV := hid hv
 have HN := hid hn
 clear hR hv hn
 have H := Hp.start [] w
 go_enter Tryz.func99, Tryz.ntmps99
 go_wp2_with fail
 go_loopw [8] (fun s8 wr => ∃ k : Nat, s8 = .int .i64 (k : Int) ∧ k ≤ n ∧ Hp [] w wr []) (fun v _ => n - (intOf v).toNat)
 case atStart => exact ⟨0, rfl, Nat.zero_le _, H⟩
 case round =>
  clear H
  obtain ⟨k, rfl, hk, H⟩ := hrel
  by_cases hlt : k < n
  ·obtain ⟨x, hx⟩ : ∃ x, vl[k]? = some x := ⟨_, List.getElem?_eq_getElem (by rw [HN.out]; exact hlt)⟩
   have hxv := HV.out x (List.mem_of_getElem? hx)
   have hx64 := hxv.1
   have HXF := hid hxv.2
   obtain ⟨g, hg⟩ := HR.out.some (by rw [List.length_map, HN.out]; omega)
   subst hg
   have HX := hid (HR.out.at (show (vl.map uV)[k]? = some (.int .u64 (x : Int)) by rw [List.getElem?_map, hx]; rfl))
   clear hx hxv
   go_wp2_with (first | refine x_e (ev_ixE k k rfl rfl rfl (hid rfl)) ?_ | refine x_e (c_ldc rfl rfl (H.fr.cell HX.out (by simp))) ?_ | refine x_q H ?_)
   (refine x_c H (checkOne_any _ hx64 HXF.out) ?_; clear H; rintro e w1 ⟨rfl, hF⟩ H; clear hF)
   go_wp2_with fail
   go_roundw
   case rel => exact ⟨k + 1, rfl, by omega, H⟩
   case measure => (simp [intOf]; try omega)
  ·go_wp2_with (refine x_q H ?_)
   go_ret
   exact ⟨rfl, H.fr⟩
theorem containsF_any (w : World) {p : Option Addr} {n c : Nat} (vl : List Nat) (hn : vl.length = n) (hn2 : n ≤ 100000) (hv : ∀ x ∈ vl, x < 18446744073709551616 ∧ finF x = true) (hR : CelR w p (vl.map uV)) :
  Calls Tryz.prog 66 #[.slice p n c, .func (.func 67) #[] #[]] w fun e w' => e = .returned (.bool false) ∧ Fr [] w w' := by
 have HR := hid hR
 have HV := hid hv
 have HN := hid hn
 clear hR hv hn
 have H := Hp.start [] w
 go_enter Tryz.func66, Tryz.ntmps66
 go_wp2_with fail
 (refine x_c H (indexF_any _ vl HN.out hn2 HV.out (HR.out.fr H.fr)) ?_; clear H; rintro e w1 ⟨rfl, hF⟩ H; clear hF)
 go_wp2_with (refine x_q H ?_)
 go_ret
 exact ⟨rfl, H.fr⟩
structure MatIn (rows cols N : Nat) (S : List En) (vl : List Nat) (p1 p2 p3 : Option Addr) (c2 c3 : Nat) (w : World) : Prop where
 hr2 : rows ≤ 200
 hc2 : cols ≤ 200
 hN : S.length = N
 hN2 : N ≤ 10000
 hNc : N ≤ c2
 hNc3 : N ≤ c3
 hs : S.Pairwise ltE
 hb : ∀ x ∈ S, x.1 < rows ∧ x.2.1 < cols
 hne : ∀ j, j < cols → 0 < cntE S j
 hR1 : CelR w p1 (((List.range (cols + 1)).map (pre S)).map iV)
 hR2 : CelR w p2 ((S.map (·.1)).map iV)
 hR3 : CelR w p3 (vl.map uV)
 hvl : vl.length = N
 hv : ∀ x ∈ vl, x < 18446744073709551616 ∧ finF x = true
theorem MatIn.fr {rows cols N : Nat} {S : List En} {vl : List Nat} {p1 p2 p3 : Option Addr} {c2 c3 : Nat} {w w' : World} (h : MatIn rows cols N S vl p1 p2 p3 c2 c3 w) (k : Fr [] w w') : MatIn rows cols N S vl p1 p2 p3 c2 c3 w' :=
 ⟨h.hr2, h.hc2, h.hN, h.hN2, h.hNc, h.hNc3, h.hs, h.hb, h.hne, h.hR1.fr k, h.hR2.fr k, h.hR3.fr k, h.hvl, h.hv⟩
theorem check_any (w : World) {rows cols N : Nat} {S : List En} {vl : List Nat} {p1 p2 p3 : Option Addr} {c1 c2 c3 : Nat} (h : MatIn rows cols N S vl p1 p2 p3 c2 c3 w) :
  Calls Tryz.prog 36 #[.agg #[iV rows, iV cols, .slice p1 (cols + 1) c1, .slice p2 N c2, .slice p3 N c3]] w fun e w' => e = .returned (.int .i64 0) ∧ Fr [] w w' := by
 have HM := hid h
 have hr2 := h.hr2
 have hc2 := h.hc2
 have hN2 := h.hN2
 have hb1 := hid (show decide ((0 : Int) ≤ (rows : Int) ∧ (rows : Int) ≤ 200) = true by simp; omega)
 have hb2 := hid (show decide ((0 : Int) ≤ (cols : Int) ∧ (cols : Int) ≤ 200) = true by simp; omega)
 clear h
 have H := Hp.start [] w
 unfold iV
 go_enter Tryz.func36, Tryz.ntmps36
 go_wp2_with (first | refine x_q H ?_ | (revert H; refine x_g ?_; (first | (have hh := g5; clear hh; intro g6 w1 hg hf H) | (have hh := g4; clear hh; intro g5 w1 hg hf H) | (have hh := g3; clear hh; intro g4 w1 hg hf H) | (have hh := g2; clear hh; intro g3 w1 hg hf H) | (have hh := g1; clear hh; intro g2 w1 hg hf H) | (have hh := g0; clear hh; intro g1 w1 hg hf H) | intro g0 w1 hg hf H); (first | replace hf := hf.kp | clear hf)))
 (refine x_c H (within_any _ rows 0 200 hb1) ?_; clear H; rintro e w1 ⟨rfl, hF⟩ H; clear hF)
 go_wp2_with (refine x_q H ?_)
 (refine x_c H (within_any _ cols 0 200 hb2) ?_; clear H; rintro e w1 ⟨rfl, hF⟩ H; clear hF)
 go_wp2_with (refine x_q H ?_)
 have hm := HM.out.fr H.fr
 (refine x_c H (columns_any _ rows cols N hr2 hc2 S hm.hN hN2 hm.hNc hm.hs hm.hb hm.hne hm.hR1 hm.hR2) ?_; clear H; rintro e w1 ⟨rfl, hF⟩ H; clear hF)
 clear hm
 go_wp2_with (refine x_q H ?_)
 have hm := HM.out.fr H.fr
 (refine x_c H (containsF_any _ vl hm.hvl (by omega) hm.hv hm.hR3) ?_; clear H; rintro e w1 ⟨rfl, hF⟩ H; clear hF)
 clear hm
 go_wp2_with fail
 go_ret
 exact ⟨rfl, H.fr⟩
theorem at_any (w : World) {rows cols N : Nat} {S : List En} {vl : List Nat} {p1 p2 p3 : Option Addr} {c1 c2 c3 : Nat} (h : MatIn rows cols N S vl p1 p2 p3 c2 c3 w) {i j q v u : Nat} (hq : S[q]? = some (i, j, u)) (hvq : vl[q]? = some v) :
  Calls Tryz.prog 38 #[.agg #[iV rows, iV cols, .slice p1 (cols + 1) c1, .slice p2 N c2, .slice p3 N c3], .int .i64 (i : Int), .int .i64 (j : Int)] w fun e w' => e = .returned (.tuple #[.int .u64 (v : Int), .bool true]) ∧ Fr [] w w' := by
 have hN2 := h.hN2
 have hqN : q < N := by rw [← h.hN]; exact (List.getElem?_eq_some_iff.1 hq).1
 have hjc : j < cols := (h.hb _ (List.mem_of_getElem? hq)).2
 have hNc := h.hNc
 have hc2 := h.hc2
 obtain ⟨ga, rfl⟩ := h.hR1.some (by simp)
 obtain ⟨g2', rfl⟩ := h.hR2.some (by rw [List.length_map, List.length_map, h.hN]; omega)
 obtain ⟨g3', rfl⟩ := h.hR3.some (by rw [List.length_map, h.hvl]; omega)
 obtain ⟨kx, hqk, hkc, hkx⟩ := entry_at h.hs hq
 simp only at hqk hkc hkx
 have hpn := pre_succ S j
 have hple := pre_le S (j + 1)
 rw [h.hN] at hple
 obtain ⟨A, hA⟩ : ∃ A, pre S j = A := ⟨_, rfl⟩
 obtain ⟨C, hC⟩ : ∃ C, cntE S j = C := ⟨_, rfl⟩
 obtain ⟨Bn, hBn⟩ : ∃ Bn, pre S (j + 1) = Bn := ⟨_, rfl⟩
 have hs1 := hid (h.hR1.at (show _ = some (.int .i64 (A : Int)) by rw [← hA]; exact stE_at (by omega)))
 have hs2 := hid (h.hR1.at (show _ = some (.int .i64 (Bn : Int)) by rw [← hBn]; exact stE_at (by omega)))
 have hvc := hid (h.hR3.at (show (vl.map uV)[q]? = some (.int .u64 (v : Int)) by rw [List.getElem?_map, hvq]; rfl))
 have hrows := sorted_rows h.hs j
 rw [hA, hC] at hrows hkx hpn
 rw [hBn] at hpn hple
 rw [hA] at hqk
 rw [hC] at hkc
 have HROW := hid hrows
 have HKX := hid (show (((S.drop A).take C).map (·.1))[kx]? = some i by rw [List.getElem?_map, hkx]; rfl)
 have HPN := hid hpn
 have hC10 : C ≤ 10000 := by omega
 have hA10 : A ≤ 10000 := by omega
 have HJ1 := hid (show (j : Int) + 1 = ((j + 1 : Nat) : Int) by omega)
 have HQ1 := hid (show (A : Int) + (kx : Int) = (q : Int) by rw [hqk]; omega)
 have hlen : (((S.drop A).take C).map (·.1)).length = C := by rw [List.length_map, List.length_take, List.length_drop, h.hN]; omega
 have HLEN := hid hlen
 have HCE := hid (fun (k x : Nat) (hk : (((S.drop A).take C).map (·.1))[k]? = some x) => show w.cell? ⟨g2', A + k, none⟩ = some (iV x) from by
  have hkl := (List.getElem?_eq_some_iff.1 hk).1
  rw [hlen] at hkl
  rw [List.getElem?_map, List.getElem?_take_of_lt (by omega), List.getElem?_drop] at hk
  obtain ⟨y, hy, rfl⟩ := Option.map_eq_some_iff.1 hk
  exact h.hR2.at (by rw [List.getElem?_map, List.getElem?_map, hy]; rfl))
 clear hrows hpn hA hC hBn hlen hq hvq h hkx hqk
 have H := Hp.start [] w
 unfold iV
 go_enter Tryz.func38, Tryz.ntmps38
 go_wp2_with (revert H; refine x_g ?_; (first | (have hh := g5; clear hh; intro g6 w1 hg hf H) | (have hh := g4; clear hh; intro g5 w1 hg hf H) | (have hh := g3; clear hh; intro g4 w1 hg hf H) | (have hh := g2; clear hh; intro g3 w1 hg hf H) | (have hh := g1; clear hh; intro g2 w1 hg hf H) | (have hh := g0; clear hh; intro g1 w1 hg hf H) | intro g0 w1 hg hf H); (first | replace hf := hf.kp | clear hf))
 (revert H; refine w_p 21 (.st 0 (.st 1 (.st 2 (.st 3 (.st 4 (.st 5 (.st 6 (.st 7 (.st 8 (.st 9 (.st 10 (.st 11 (.st 12 (.st 13 (.st 14 (.ld 15 (.st 16 (.st 17 (.st 18 (.st 19 (.st 20 .done))))))))))))))))))))) ?_; intro w1 H)
 iterate 5 refine p_q ?_
 (refine p_e rfl (fun w H => ev_ixE j j rfl rfl rfl (hid rfl)) ?_)
 (refine p_e rfl (fun w H => c_ldc rfl rfl (H.fr.cell hs1.out (by simp))) ?_)
 iterate 4 refine p_q ?_
 (refine p_e rfl (fun w H => ev_ixE (j + 1) (j + 1) rfl rfl rfl HJ1) ?_)
 (refine p_e rfl (fun w H => c_ldc rfl rfl (H.fr.cell hs2.out (by simp))) ?_)
 (refine p_e rfl (fun w H => ev_cut rfl rfl rfl rfl C (by have := HPN.out; omega) (by omega) (by have := HPN.out; omega)) ?_)
 refine p_q ?_
 ((refine p_c H rfl rfl Tryz.func69 (bsearch_hit _ (((S.drop A).take C).map (·.1)) HLEN.out (by omega) HROW.out (fun k x hk => H.fr.cell (HCE.out k x hk) (by simp)) HKX.out) ?_; clear H; rintro e w1 ⟨rfl, hF⟩ H; refine p_r ?_; clear hF))
 iterate 5 refine p_q ?_
 (refine pl_done ?_)
 go_wp2_with fail
 (revert H; refine w_p 13 (.st 0 (.st 1 (.st 2 (.st 3 (.st 4 (.st 5 (.st 6 (.st 7 (.st 8 (.st 9 (.st 10 (.st 11 (.st 12 .done))))))))))))) ?_; intro w1 H)
 iterate 5 refine p_q ?_
 (refine p_e rfl (fun w H => ev_ixE j j rfl rfl rfl (hid rfl)) ?_)
 (refine p_e rfl (fun w H => c_ldc rfl rfl (H.fr.cell hs1.out (by simp))) ?_)
 iterate 2 refine p_q ?_
 (refine p_e rfl (fun w H => ev_ixE q q rfl rfl rfl HQ1) ?_)
 (refine p_e rfl (fun w H => c_ldc rfl rfl (H.fr.cell hvc.out (by simp))) ?_)
 iterate 2 refine p_q ?_
 (refine pl_done ?_)
 go_wp2_with fail
 go_ret2
 exact ⟨rfl, H.fr⟩
theorem atM_any (w : World) {rows cols N : Nat} {S : List En} {vl : List Nat} {p1 p2 p3 : Option Addr} {c1 c2 c3 : Nat} (h : MatIn rows cols N S vl p1 p2 p3 c2 c3 w) {i j q v u : Nat} (hq : S[q]? = some (i, j, u)) (hvq : vl[q]? = some v) :
  Calls Tryz.prog 16 #[.agg #[iV rows, iV cols, .slice p1 (cols + 1) c1, .slice p2 N c2, .slice p3 N c3], .int .i64 (i : Int), .int .i64 (j : Int)] w fun e w' => e = .returned (.int .u64 (v : Int)) ∧ Fr [] w w' := by
 have HM := hid h
 have HQ := hid hq
 have HV := hid hvq
 have hr2 := h.hr2
 have hc2 := h.hc2
 have hbx := h.hb _ (List.mem_of_getElem? hq)
 simp only at hbx
 have hB1 := hid (show decide ((0 : Int) ≤ (i : Int) ∧ (i : Int) ≤ (rows : Int) - 1) = true by simp; omega)
 have hB2 := hid (show decide ((0 : Int) ≤ (j : Int) ∧ (j : Int) ≤ (cols : Int) - 1) = true by simp; omega)
 clear h hq hvq hbx
 have H := Hp.start [] w
 unfold iV
 go_enter Tryz.func16, Tryz.ntmps16
 go_wp2_with (first | refine x_q H ?_ | (revert H; refine x_g ?_; (first | (have hh := g5; clear hh; intro g6 w1 hg hf H) | (have hh := g4; clear hh; intro g5 w1 hg hf H) | (have hh := g3; clear hh; intro g4 w1 hg hf H) | (have hh := g2; clear hh; intro g3 w1 hg hf H) | (have hh := g1; clear hh; intro g2 w1 hg hf H) | (have hh := g0; clear hh; intro g1 w1 hg hf H) | intro g0 w1 hg hf H); (first | replace hf := hf.kp | clear hf)))
 (refine x_c H (check_any _ (HM.out.fr H.fr)) ?_; clear H; rintro e w1 ⟨rfl, hF⟩ H; clear hF)
 go_wp2_with (refine x_q H ?_)
 (refine x_c H (within_any _ i 0 ((rows : Int) - 1) hB1) ?_; clear H; rintro e w1 ⟨rfl, hF⟩ H; clear hF)
 go_wp2_with (refine x_q H ?_)
 (refine x_c H (within_any _ j 0 ((cols : Int) - 1) hB2) ?_; clear H; rintro e w1 ⟨rfl, hF⟩ H; clear hF)
 go_wp2_with (refine x_q H ?_)
 (refine x_c H (at_any _ (HM.out.fr H.fr) HQ.out HV.out) ?_; clear H; rintro e w1 ⟨rfl, hF⟩ H; clear hF)
 go_wp2_with fail
 go_ret
 exact ⟨rfl, H.fr⟩
end Go.Proofs.YtomggcdmhflboaaGreatDoor
