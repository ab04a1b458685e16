import Derived.Test.YtbiohhmpclnpgaaGreatDoorXMd5
import Derived.Test.YtbiohhmpclnpgaaGreatDoorXMc8
import Derived.Test.YtbiohhmpclnpgaaGreatDoorXMd2
namespace Go.Proofs.YtbiohhmpclnpgaaGreatDoor
open Go.RowKit
set_option linter.unusedSimpArgs false
set_option linter.unusedVariables false
set_option maxHeartbeats 8000000
set_option maxRecDepth 100000
attribute [local irreducible] wpList Code.wp Plan.wp stsE mixE pre cntE
def EntR (w : World) (p : Option Addr) (E : List En) : Prop := ∀ j u, (E.flatMap eC)[j]? = some u → ∃ g, p = some ⟨g, 0, none⟩ ∧ w.cell? ⟨g, j, none⟩ = some u
theorem EntR.of {w : World} {p : Option Addr} {E : List En} {n c : Nat} {S : List Nat} (h : RowAt 131 3 (.slice p n c) n (E.flatMap eC) S w) : EntR w p E := by
 intro j u hj
 have hn : 0 < n := by
  rcases Nat.eq_zero_or_pos n with h0 | h0
  ·exfalso
   have := h.1
   rw [h0, Nat.zero_mul] at this
   rw [List.eq_nil_of_length_eq_zero this] at hj
   simp at hj
  ·exact h0
 obtain ⟨g, c', he, _⟩ := h.some hn
 cases he
 exact ⟨g, rfl, h.cell hj⟩
theorem flat_get {E : List En} {k : Nat} {x : En} (hk : E[k]? = some x) (j : Nat) (hj : j < 3) : (E.flatMap eC)[k * 3 + j]? = (eC x)[j]? := by
 obtain ⟨r, hr⟩ := pre_of hk
 have : ((E.flatMap eC).drop (k * 3))[j]? = (eC x)[j]? := by rw [← hr, List.getElem?_append_left (by exact hj)]
 simpa using this
theorem EntR.some {w : World} {p : Option Addr} {E : List En} (h : EntR w p E) {k : Nat} {x : En} (hk : E[k]? = some x) : ∃ g, p = some ⟨g, 0, none⟩ := by
 have := flat_get hk 0 (by decide)
 obtain ⟨g, hg, _⟩ := h _ _ this
 exact ⟨g, hg⟩
theorem EntR.rd {w : World} {p : Option Addr} {E : List En} {c : Nat} (h : EntR w p E) : Rd w (.slice p E.length c) E.length (E.flatMap eC) := by
 rcases E with _ | ⟨x, E⟩
 ·exact .inl ⟨rfl, rfl, p, c, rfl⟩
 ·obtain ⟨g, rfl⟩ := h.some (k := 0) (x := x) rfl
  refine .inr ⟨_, c, rfl, fun j u hj => ?_⟩
  obtain ⟨g', hg, hc⟩ := h j u hj
  cases hg
  rw [add_mk, Nat.zero_add]
  exact hc
theorem EntR.fr {w w' : World} {p : Option Addr} {E : List En} (h : EntR w p E) (k : Fr [] w w') : EntR w' p E := by
 intro j u hj
 obtain ⟨g, hg, hc⟩ := h j u hj
 exact ⟨g, hg, k.cell hc (by simp)⟩
theorem build_is (w : World) (rows cols : Nat) (hc : cols ≤ 200) {p : Option Addr} {c n : Nat} (E E' : List En) (hn : E.length = n) (hr : Rd w (.slice p E.length c) E.length (E.flatMap eC)) (hE : n ≤ 20) (hE' : ∀ S : List En, E.Perm S → S.Pairwise leE → S = E') (hcol : ∀ x ∈ E, x.2.1 < cols) :
  Calls Tryz.prog 165 #[.int .i64 (rows : Int), .int .i64 (cols : Int), .slice p n c] w (MatR rows cols ((List.range (cols + 1)).map (pre E')) (E'.map (·.1)) (E'.map (·.2.2)) w) := by
 subst hn
 exact build_any w rows cols hc E E' hr hE hE' hcol
theorem ev_ldE {P : Program} {a : Act} {w : World} {o : Oper} {t : TypeId} {x : Operand} (ho : o.op = .load t x) {g k : Nat} (hx : a.eval x = .pointer (some ⟨g, k * 3, none⟩)) [s : Ro P t 3] {E : List En} (h : EntR w (some ⟨g, 0, none⟩) E) {xr xc xv : Nat} (hk : E[k]? = some (xr, xc, xv)) : (execOp a.eval o).run P w = .ok (.value (.agg #[.int .i64 (xr : Int), .int .i64 (xc : Int), .int .u64 (xv : Int)])) w := by
 refine ev_loadN (cs := [.int .i64 (xr : Int), .int .i64 (xc : Int), .int .u64 (xv : Int)]) ho hx s.h fun j v hj => ?_
 have hj3 : j < 3 := (List.getElem?_eq_some_iff.1 hj).1
 have e := flat_get hk j hj3
 obtain ⟨g', hg, hc⟩ := h _ _ (e.trans hj)
 cases hg
 exact hc
def sliceLen : Value → Nat
 | .slice _ n _ => n
 | _ => 0
theorem man_bl {b : Nat} : bl (sg (decide (9223372036854775808 ≤ b)) (manF (b % 9223372036854775808))).natAbs ≤ 64 := by
 rw [sg_abs]
 refine bl_le ?_
 have h : manF (b % 9223372036854775808) < 9223372036854775808 * 2 := by
  unfold manF
  split <;> omega
 exact h
theorem exp_in {b : Nat} : -2000 ≤ expoF (b % 9223372036854775808) ∧ expoF (b % 9223372036854775808) ≤ 2000 := by
 have h : b % 9223372036854775808 / 4503599627370496 < 2048 := by omega
 unfold expoF
 split <;> omega
theorem fin_ne {b : Nat} (h : finF b = true) : b / 4503599627370496 % 2048 ≠ 2047 := by
 unfold finF at h
 simpa using h
def MatF (rows cols : Nat) (st ix vl : List Nat) (w : World) (e : Ending) (w' : World) : Prop :=
 ∃ v1 v2 v3 B, e = .returned (.tuple #[.agg #[iV rows, iV cols, v1, v2, v3], .int .i64 0]) ∧ Fr [] w w' ∧ Mat3 st ix vl v1 v2 v3 B w' ∧ ∀ x ∈ B, w.heap.size ≤ x
theorem sort_self {S : List En} (h : S.Pairwise ltE) (S' : List En) (hp : S.Perm S') (hs : S'.Pairwise leE) : S' = S :=
 sorted_uniq (strict_of hs (perm_ap hp (h.imp fun k => k.ap))) h fun x => (hp.mem_iff).symm
set_option maxHeartbeats 64000000 in
theorem fromEntries_any (w : World) (rows cols : Nat) (hr2 : rows ≤ 200) (hc2 : cols ≤ 200) {p : Option Addr} {c : Nat} (E : List En) (hE : E.length ≤ 20) (hok : okM rows cols E) (hR : EntR w p E) (hT : La w) :
  Calls Tryz.prog 119 #[.int .i64 (rows : Int), .int .i64 (cols : Int), .slice p E.length c] w (MatF rows cols ((List.range (cols + 1)).map (pre (entP E rows cols))) ((entP E rows cols).map (·.1)) (((entP E rows cols).map clE).map (·.2.2)) w) := by
 have HR := hid hR
 have HT := hid hT
 have HOK := hid hok.2
 have HAP := hid hok.1
 clear hR hT hok
 have H := (Hp.start [] w).newRow 3 (e := 131) (sz := 3)
 have hb1 := hid (show decide ((0 : Int) ≤ (rows : Int) ∧ (rows : Int) ≤ 200) = true by simp; omega)
 have hb2 := hid (show decide ((0 : Int) ≤ (cols : Int) ∧ (cols : Int) ≤ 200) = true by simp; omega)
 go_enter Tryz.func119, Tryz.ntmps119
 go_wp2_with (revert H; refine x_g ?_; (first | (have hh := g5; clear hh; intro g6 w1 hg hf H) | (have hh := g4; clear hh; intro g5 w1 hg hf H) | (have hh := g3; clear hh; intro g4 w1 hg hf H) | (have hh := g2; clear hh; intro g3 w1 hg hf H) | (have hh := g1; clear hh; intro g2 w1 hg hf H) | (have hh := g0; clear hh; intro g1 w1 hg hf H) | intro g0 w1 hg hf H); (first | replace hf := hf.kp | clear hf))
 (refine x_c H (within_any _ rows 0 200 hb1) ?_; clear H; rintro e w1 ⟨rfl, hF⟩ H; replace hF := hF.kp)
 go_wp2_with fail
 (refine x_c H (within_any _ cols 0 200 hb2) ?_; clear H; rintro e w1 ⟨rfl, hF⟩ H; replace hF := hF.kp)
 go_wp2_with (refine x_q H ?_)
 clear hb1 hb2
 go_loopw [31] (fun s31 wr => ∃ k : Nat, s31 = .int .i64 (k : Int) ∧ k ≤ E.length ∧ Hp [] w wr [.blk g0 [.int .i64 0, .int .i64 0, .slice none 0 0, .slice none 0 0, .slice none 0 0] 32, .obj 3 [] (RowAt 131 3 (.slice none 0 0) 0 [] [])]) (fun v _ => E.length - (intOf v).toNat)
 case atStart => exact ⟨0, rfl, Nat.zero_le _, H.arr (by repeat (first | exact Pm.nil _ | (apply Pm.cons; · (repeat first | exact Rm.here _ | apply Rm.there))))⟩
 case round =>
  clear H
  obtain ⟨k, rfl, hk, H⟩ := hrel
  by_cases hlt : k < E.length
  ·obtain ⟨⟨xr, xc, xv⟩, hx⟩ : ∃ x, E[k]? = some x := ⟨_, List.getElem?_eq_getElem hlt⟩
   have hxb := HOK.out _ (List.mem_of_getElem? hx)
   simp only at hxb
   have hB1 := hid (show decide ((0 : Int) ≤ (xr : Int) ∧ (xr : Int) ≤ (rows : Int) - 1) = true by simp; omega)
   have hB2 := hid (show decide ((0 : Int) ≤ (xc : Int) ∧ (xc : Int) ≤ (cols : Int) - 1) = true by simp; omega)
   obtain ⟨g, hg⟩ := HR.out.some hx
   subst hg
   have HX := hid hx
   clear hx hxb
   go_wp2_with (first | refine x_e (ev_ldE rfl rfl (HR.out.fr H.fr) HX.out) ?_ | refine x_q H ?_ | (revert H; refine x_g ?_; (first | (have hh := g5; clear hh; intro g6 w1 hg hf H) | (have hh := g4; clear hh; intro g5 w1 hg hf H) | (have hh := g3; clear hh; intro g4 w1 hg hf H) | (have hh := g2; clear hh; intro g3 w1 hg hf H) | (have hh := g1; clear hh; intro g2 w1 hg hf H) | (have hh := g0; clear hh; intro g1 w1 hg hf H) | intro g0 w1 hg hf H); (first | replace hf := hf.kp | clear hf)) | (revert H; refine xSF ?_; intro w1 H hk))
   (refine x_c H (within_any _ xr 0 ((rows : Int) - 1) hB1) ?_; clear H; rintro e w1 ⟨rfl, hF⟩ H; replace hF := hF.kp)
   go_wp2_with (refine x_q H ?_)
   (refine x_c H (within_any _ xc 0 ((cols : Int) - 1) hB2) ?_; clear H; rintro e w1 ⟨rfl, hF⟩ H; replace hF := hF.kp)
   go_wp2_with fail
   go_roundw
   case rel => exact ⟨k + 1, rfl, by omega, H.arr (by repeat (first | exact Pm.nil _ | (apply Pm.cons; · (repeat first | exact Rm.here _ | apply Rm.there))))⟩
   case measure => (simp [intOf]; try omega)
  ·go_wp2_with (refine x_q H ?_)
   go_loopw [53] (fun s53 wr => ∃ k : Nat, s53 = .int .i64 (k : Int) ∧ k ≤ E.length ∧ Hp [] w wr [.blk g0 [.int .i64 0, .int .i64 0, .slice none 0 0, .slice none 0 0, .slice none 0 0] 32, .obj 3 [] (RowAt 131 3 (.slice none 0 0) 0 [] [])]) (fun v _ => E.length - (intOf v).toNat)
   case atStart => exact ⟨0, rfl, Nat.zero_le _, H.arr (by repeat (first | exact Pm.nil _ | (apply Pm.cons; · (repeat first | exact Rm.here _ | apply Rm.there))))⟩
   case round =>
    clear H
    obtain ⟨k, rfl, hk, H⟩ := hrel
    by_cases hlt : k < E.length
    ·obtain ⟨⟨xr, xc, xv⟩, hx⟩ : ∃ x, E[k]? = some x := ⟨_, List.getElem?_eq_getElem hlt⟩
     have hxb := HOK.out _ (List.mem_of_getElem? hx)
     simp only at hxb
     have hv64 := hxb.2.2.2
     have hB1 := hid hxb.2.2.1
     obtain ⟨g, hg⟩ := HR.out.some hx
     subst hg
     have HX := hid hx
     clear hx hxb
     go_wp2_with (first | refine x_e (ev_ldE rfl rfl (HR.out.fr H.fr) HX.out) ?_ | refine x_q H ?_ | (revert H; refine x_g ?_; (first | (have hh := g5; clear hh; intro g6 w1 hg hf H) | (have hh := g4; clear hh; intro g5 w1 hg hf H) | (have hh := g3; clear hh; intro g4 w1 hg hf H) | (have hh := g2; clear hh; intro g3 w1 hg hf H) | (have hh := g1; clear hh; intro g2 w1 hg hf H) | (have hh := g0; clear hh; intro g1 w1 hg hf H) | intro g0 w1 hg hf H); (first | replace hf := hf.kp | clear hf)) | (revert H; refine xSF ?_; intro w1 H hk))
     (refine x_c H (isFin_any _ hv64 hB1) ?_; clear H; rintro e w1 ⟨rfl, hF⟩ H; replace hF := hF.kp)
     go_wp2_with fail
     go_roundw
     case rel => exact ⟨k + 1, rfl, by omega, H.arr (by repeat (first | exact Pm.nil _ | (apply Pm.cons; · (repeat first | exact Rm.here _ | apply Rm.there))))⟩
     case measure => (simp [intOf]; try omega)
    ·go_wp2_with (refine x_q H ?_)
     refine Calls.mono (sorted20 _ E (HR.out.fr H.fr).rd hE) ?_
     rintro e w1 ⟨vs, rfl, hF, S, hSl, hown, hp, hs⟩
     obtain ⟨Ss, H1⟩ := H.rowNew 1 hF hown
     clear H
     have H := H1
     replace hF := hF.kp
     clear H1 hown
     have HSE := hid (sort_eq HAP.out (fun x hx => ⟨(HOK.out x hx).1, (HOK.out x hx).2.1⟩) hp hs)
     have HSL := hid (strict_of hs (perm_ap hp HAP.out))
     have HOS := hid (fun x (hx : x ∈ S) => HOK.out x (hp.mem_iff.2 hx))
     obtain ⟨N, hN⟩ : ∃ N, S.length = N := ⟨_, rfl⟩
     rw [← hSl, hN] at H hE
     have HN := hid hN
     clear hp hs hSl hN HAP HOK HR
     obtain ⟨p5, c5, rfl, hNc, _⟩ := (H.rowo 1).form
     have hS0 := hid (fun h : 0 < N => (H.rowo 1).some h)
     go_wp2_with fail
     go_loopw [2, 12] (fun s2 s12 wr => ∃ (k nl cl : Nat) (pl pO : Option Addr) (cO : Nat) (SO : List Nat), s2 = .slice pl nl cl ∧ s12 = .slice pO k cO ∧ nl + k = N ∧ nl ≤ cl ∧ Hid (0 < nl → ∃ gs, p5 = some ⟨gs, 0, none⟩ ∧ pl = some ⟨gs, k * 3, none⟩) ∧ Hp [] w wr [.obj 3 SO (RowAt 131 3 (.slice pO k cO) k (((S.take k).map clE).flatMap eC) SO), .obj 1 Ss (RowAt 131 3 (.slice p5 N c5) N (S.flatMap eC) Ss), .blk g0 [.int .i64 0, .int .i64 0, .slice none 0 0, .slice none 0 0, .slice none 0 0] 32]) (fun v _ _ => sliceLen v)
     case atStart =>
      refine ⟨0, N, c5, p5, none, 0, [], rfl, rfl, by omega, hNc, hid (fun h => ?_), H.arr (by repeat (first | exact Pm.nil _ | (apply Pm.cons; · (repeat first | exact Rm.here _ | apply Rm.there))))⟩
      obtain ⟨gs, cs, he, _⟩ := hS0.out h
      cases he
      exact ⟨gs, rfl, by rw [Nat.zero_mul]⟩
     case round =>
      clear H hS0 hF
      obtain ⟨k, nl, cl, pl, pO, cO, SO, rfl, rfl, hnk, hcl, HPL, H⟩ := hrel
      by_cases hlt : 0 < nl
      ·obtain ⟨gs, hp5, hpl⟩ := HPL.out hlt
       subst hp5 hpl
       obtain ⟨⟨xr, xc, xv⟩, hx⟩ : ∃ x, S[k]? = some x := ⟨_, List.getElem?_eq_getElem (by rw [HN.out]; omega)⟩
       have hxb := HOS.out _ (List.mem_of_getElem? hx)
       simp only at hxb
       have hv64 := hxb.2.2.2
       have HFN := hid hxb.2.2.1
       have hexp := fin_ne hxb.2.2.1
       have hpre : [.int .i64 (xr : Int), .int .i64 (xc : Int), .int .u64 (xv : Int)] <+: (S.flatMap eC).drop (k * 3) := pre_of hx
       have hx0 : (S.flatMap eC)[k * 3]? = some (.int .i64 (xr : Int)) := flat_get hx 0 (by decide)
       have hx1 : (S.flatMap eC)[k * 3 + 1]? = some (.int .i64 (xc : Int)) := flat_get hx 1 (by decide)
       have hx2 : (S.flatMap eC)[k * 3 + 2]? = some (.int .u64 (xv : Int)) := flat_get hx 2 (by decide)
       have HX := hid hx
       clear hx hxb HPL
       obtain ⟨z, hz0⟩ : ∃ z, cleanF xv = z := ⟨_, rfl⟩
       have hz64 : z < 18446744073709551616 := by rw [← hz0]; exact cleanF_lt hv64
       have HZF := hid (show finF z = true by rw [← hz0]; exact cleanF_fin HFN.out)
       go_wp2_with (first | refine x_e (c_lnO rfl rfl (H.rowo 1) hpre rfl) ?_ | refine x_q H ?_ | (revert H; refine x_g ?_; (first | (have hh := g5; clear hh; intro g6 w1 hg hf H) | (have hh := g4; clear hh; intro g5 w1 hg hf H) | (have hh := g3; clear hh; intro g4 w1 hg hf H) | (have hh := g2; clear hh; intro g3 w1 hg hf H) | (have hh := g1; clear hh; intro g2 w1 hg hf H) | (have hh := g0; clear hh; intro g1 w1 hg hf H) | intro g0 w1 hg hf H); (first | replace hf := hf.kp | clear hf)) | (revert H; refine xSF ?_; intro w1 H hk))
       have H1 := H.newRow 4 (e := 56) (sz := 4)
       clear H
       have H := H1
       clear H1
       go_loopw [2, 14] (fun s2 s14 wr => (s2 = .slice (some ⟨gs, k * 3, none⟩) nl cl ∧ s14 = .slice none 0 0 ∧ Hp [] w wr [.obj 4 [] (RowAt 56 4 (.slice none 0 0) 0 [] []), .blk g1 [.int .i64 (xr : Int), .int .i64 (xc : Int), .int .u64 (xv : Int)] 131, .obj 3 SO (RowAt 131 3 (.slice pO k cO) k (((S.take k).map clE).flatMap eC) SO), .obj 1 Ss (RowAt 131 3 (.slice (some ⟨gs, 0, none⟩) N c5) N (S.flatMap eC) Ss), .blk g0 [.int .i64 0, .int .i64 0, .slice none 0 0, .slice none 0 0, .slice none 0 0] 32]) ∨ (∃ (nl1 cl1 : Nat) (pl1 : Option Addr) (gd cd : Nat) (m9 e9 : Int) (b9 : Bool) (p9 : Option Addr) (n9 c9 : Nat), s2 = .slice pl1 nl1 cl1 ∧ s14 = .slice (some ⟨gd, 0, none⟩) 1 cd ∧ nl1 + 1 = nl ∧ nl1 ≤ cl1 ∧ Hid (0 < nl1 → pl1 = some ⟨gs, (k + 1) * 3, none⟩) ∧ Hid (Nm (sg (decide (9223372036854775808 ≤ xv)) (manF (xv % 9223372036854775808))) (expoF (xv % 9223372036854775808)) m9 e9) ∧ Hid (Bv wr (.agg #[.bool b9, .slice p9 n9 c9]) m9 (bl m9.natAbs)) ∧ Hp [] w wr [.obj 4 [gd] (RowAt 56 4 (.slice (some ⟨gd, 0, none⟩) 1 cd) 1 [.bool false, .bool b9, .slice p9 n9 c9, .int .i64 e9] [gd]), .blk g1 [.int .i64 (xr : Int), .int .i64 (xc : Int), .int .u64 (xv : Int)] 131, .obj 3 SO (RowAt 131 3 (.slice pO k cO) k (((S.take k).map clE).flatMap eC) SO), .obj 1 Ss (RowAt 131 3 (.slice (some ⟨gs, 0, none⟩) N c5) N (S.flatMap eC) Ss), .blk g0 [.int .i64 0, .int .i64 0, .slice none 0 0, .slice none 0 0, .slice none 0 0] 32])) (fun v _ _ => sliceLen v)
       case atStart => exact .inl ⟨rfl, rfl, H.arr (by repeat (first | exact Pm.nil _ | (apply Pm.cons; · (repeat first | exact Rm.here _ | apply Rm.there))))⟩
       case round =>
        clear H
        rcases hrel with ⟨rfl, rfl, H⟩ | ⟨nl1, cl1, pl1, gd, cd, m9, e9, b9, p9, n9, c9, rfl, rfl, hn1, hc1, HPL1, HN9, HB9, H⟩
        ·have hFk := H.fr.kp
         go_wp2_with fail
         (revert H; refine w_pF 21 (.st 0 (.st 1 (.st 2 (.st 3 (.st 4 (.st 5 (.st 6 (.st 7 (.st 8 (.st 9 (.st 10 (.st 11 (.st 12 (.st 13 (.st 14 (.st 15 (.st 16 (.st 17 (.st 18 (.st 19 (.st 20 .done))))))))))))))))))))) ?_; intro w1 hf H; (first | replace hf := hf.kp | clear hf))
         iterate 4 refine p_q ?_
         iterate 3 (first | refine p_q ?_ | refine p_n ?_)
         (first | refine p_e rfl (fun w H => c_l1O rfl rfl (H.rowo 1) hx0) ?_ | refine p_n ?_)
         iterate 3 (first | refine p_q ?_ | refine p_n ?_)
         iterate 2 refine p_q ?_
         iterate 3 (first | refine p_q ?_ | refine p_n ?_)
         (first | refine p_e rfl (fun w H => c_l1O rfl rfl (H.rowo 1) hx1) ?_ | refine p_n ?_)
         iterate 3 (first | refine p_q ?_ | refine p_n ?_)
         refine p_q ?_
         (refine pl_done ?_)
         go_wp2_with fail
         (revert H; refine w_pF 12 (.st 0 (.st 1 (.st 2 (.st 3 (.st 4 (.st 8 (.st 9 (.ld 5 (.ld 6 (.ld 7 (.st 10 (.st 11 .done)))))))))))) ?_ (hs := (.cons _ (List.Sublist.refl _))); intro w1 hf H; (first | replace hf := hf.kp | clear hf))
         iterate 4 refine p_q ?_
         (refine p_e rfl (fun w H => c_l1O rfl rfl (H.rowo 1) hx2) ?_)
         iterate 2 refine p_q ?_
         (refine p_c H rfl rfl Tryz.func162 (ofF_any _ hv64 hexp (HT.out.fr H.fr)) ?_; clear H; rintro e w1 ⟨v9, rfl, hF, hD⟩ H; refine p_r ?_; replace hF := hF.kp); obtain ⟨m9, e9, b9, p9, n9, c9, rfl, hN, hB⟩ := hD; have HN9 := hid hN; have HB9 := hid hB; clear hN hB
         (revert H; refine p_g ?_; intro gt w1 hg hf H; (first | replace hf := hf.kp | clear hf))
         (go_loud (refine pl_rw rfl rfl (fun K hK => c_aprS H rfl rfl rfl 4 (H.rd (b := gt) (off := 0) (vs := [.bool false, .bool b9, .slice p9 n9 c9, .int .i64 e9]) List.prefix_rfl) rfl (by intro u hu; simp only [List.mem_cons, List.not_mem_nil, or_false] at hu; rcases hu with rfl | rfl | rfl | rfl <;> rfl) (by omega) (by unfold maxLen; omega) (fun pd cd w1 Sd hf H1 => hK _ _ (fun hne => by first | exact absurd rfl hne | exact trivial | exact H1.sub (by repeat first | exact List.Sublist.refl _ | exact List.nil_sublist _ | apply List.Sublist.cons_cons | apply List.Sublist.cons)) ?_))); (clear hK K); (clear H; have H := H1; clear H1; (try dsimp only at H); (first | replace hf := hf.kp | clear hf)); (simp only [nrm, ↓reduceIte, Nat.reduceAdd]))
         iterate 2 refine p_q ?_
         (refine pl_done ?_)
         all_goals
          go_wp2_with fail
          go_roundw
          case rel =>
           obtain ⟨gd, cd', hpd, rfl⟩ := (H.rowo 4).some (by omega)
           cases hpd
           refine .inr ⟨_, _, _, gd, _, m9, e9, b9, p9, n9, c9, rfl, rfl, by omega, by omega, hid (fun h => ?_), HN9, hid (bv HB9), H.arr (by repeat (first | exact Pm.nil _ | (apply Pm.cons; · (repeat first | exact Rm.here _ | apply Rm.there))))⟩
           rw [if_neg (by omega), show k * 3 + Int.toNat 1 * 3 = (k + 1) * 3 by omega]
          case measure => (simp only [sliceLen]; omega)
        ·have hFk := H.fr.kp
         rcases Nat.eq_zero_or_pos nl1 with h0 | h0
         ·subst h0
          go_wp2_with fail
          (revert H; refine w_pF 21 (.st 0 (.st 1 (.st 2 (.st 3 (.st 4 (.st 5 (.st 6 (.st 7 (.st 8 (.st 9 (.st 10 (.st 11 (.st 12 (.st 13 (.st 14 (.st 15 (.st 16 (.st 17 (.st 18 (.st 19 (.st 20 .done))))))))))))))))))))) ?_; intro w1 hf H; (first | replace hf := hf.kp | clear hf))
          iterate 4 refine p_q ?_
          iterate 3 (first | refine p_q ?_ | refine p_n ?_)
          (first | refine p_e rfl (fun w H => c_l1O rfl rfl (H.rowo 1) hx0) ?_ | refine p_n ?_)
          iterate 3 (first | refine p_q ?_ | refine p_n ?_)
          iterate 2 refine p_q ?_
          iterate 3 (first | refine p_q ?_ | refine p_n ?_)
          (first | refine p_e rfl (fun w H => c_l1O rfl rfl (H.rowo 1) hx1) ?_ | refine p_n ?_)
          iterate 3 (first | refine p_q ?_ | refine p_n ?_)
          refine p_q ?_
          (refine pl_done ?_)
          go_wp2_with fail
          (refine x_c H (sum1_any (RowAt.firm.lt _ (H.rowo 4) gd (by simp)) (fun j u hj => by rw [Nat.zero_add]; exact (H.rowo 4).cell hj) ⟨_, _, _, _, _, _, rfl, HN9.out, bv HB9⟩ man_bl exp_in (HT.out.fr H.fr)) ?_; clear H; rintro e w1 ⟨v10, x2, e2, mm, ee, rfl, hF, hD, hN1, hN2, hb2, he2⟩ H; replace hF := hF.kp)
          have HX2 := hid (hz0.symm.trans (round_clean hv64 HFN.out hN1 hN2))
          have HD2 := hid hD
          clear hN1 hN2 hD
          go_wp2_with fail
          (refine x_c H (roundF_any 0 (dn HD2) (by omega) (by omega) (HT.out.fr H.fr) HX2) ?_; clear H; rintro e w1 ⟨rfl, hF⟩ H; replace hF := hF.kp)
          go_wp2_with (first | refine x_q H ?_ | (revert H; refine x_s ?_; intro w1 hf H; (first | replace hf := hf.kp | clear hf)))
          (refine x_c H (isFin_any _ hz64 HZF) ?_; clear H; rintro e w1 ⟨rfl, hF⟩ H; replace hF := hF.kp)
          go_wp2_with (first | (refine is_blt (b := .append) rfl ?_; go_loud (refine wl_rw rfl (fun K hK => c_aprS H rfl rfl rfl 3 (H.rd (b := g2) (off := 0) (vs := eC (xr, xc, z)) List.prefix_rfl) rfl (eC_one _) (by omega) (by unfold maxLen; omega) (fun p1 c1 w1 S' hf H1 => hK _ _ ?_))); (clear hK K); (clear H; have H := H1; clear H1; (try dsimp only at H); (first | replace hf := hf.kp | clear hf)); (simp only [nrm, ↓reduceIte, Nat.reduceAdd])) | refine x_q H ?_ | (revert H; refine x_g ?_; (first | (have hh := g5; clear hh; intro g6 w1 hg hf H) | (have hh := g4; clear hh; intro g5 w1 hg hf H) | (have hh := g3; clear hh; intro g4 w1 hg hf H) | (have hh := g2; clear hh; intro g3 w1 hg hf H) | (have hh := g1; clear hh; intro g2 w1 hg hf H) | (have hh := g0; clear hh; intro g1 w1 hg hf H) | intro g0 w1 hg hf H); (first | replace hf := hf.kp | clear hf)))
          go_roundw
          case rel =>
           refine ⟨k + 1, _, _, _, _, _, S', rfl, rfl, by omega, hc1, hid (fun h => ⟨gs, rfl, by first | exact HPL1.out h | rfl⟩), ?_⟩
           have e1 : ((S.take (k + 1)).map clE).flatMap eC = ((S.take k).map clE).flatMap eC ++ eC (xr, xc, z) := by
            rw [tk_snoc HX.out, List.map_append, List.flatMap_append]
            simp only [List.map_cons, List.map_nil, List.flatMap_cons, List.flatMap_nil, List.append_nil, clE, hz0]
           rw [e1]
           (refine Hp.arr H ?_; repeat (first | exact Pm.nil _ | (apply Pm.cons; · (repeat first | exact Rm.here _ | apply Rm.there))))
          case measure => (simp only [sliceLen]; omega)
         ·have hpl1 := HPL1.out h0
          subst hpl1
          obtain ⟨⟨yr, yc, yv⟩, hy⟩ : ∃ x, S[k + 1]? = some x := ⟨_, List.getElem?_eq_getElem (by rw [HN.out]; omega)⟩
          have hy0 : (S.flatMap eC)[(k + 1) * 3]? = some (.int .i64 (yr : Int)) := flat_get hy 0 (by decide)
          have hy1 : (S.flatMap eC)[(k + 1) * 3 + 1]? = some (.int .i64 (yc : Int)) := flat_get hy 1 (by decide)
          have hyx : ¬ (yr = xr ∧ yc = xc) := by
           have e1 := List.getElem?_eq_some_iff.1 HX.out
           have e2 := List.getElem?_eq_some_iff.1 hy
           have := List.pairwise_iff_getElem.1 HSL.out k (k + 1) e1.1 e2.1 (by omega)
           rw [e1.2, e2.2] at this
           unfold ltE at this
           simp only at this
           omega
          clear hy
          by_cases hyr : yr = xr
          ·have hyr2 := hyr.symm
           clear hyr
           subst hyr2
           have hyc : ¬ (yc : Int) = (xc : Int) := by omega
           clear hyx
           go_wp2_with fail
           (revert H; refine w_pF 21 (.st 0 (.st 1 (.st 2 (.st 3 (.st 4 (.st 5 (.st 6 (.st 7 (.st 8 (.st 9 (.st 10 (.st 11 (.st 12 (.st 13 (.st 14 (.st 15 (.st 16 (.st 17 (.st 18 (.st 19 (.st 20 .done))))))))))))))))))))) ?_; intro w1 hf H; (first | replace hf := hf.kp | clear hf))
           iterate 4 refine p_q ?_
           iterate 3 (first | refine p_q ?_ | refine p_n ?_)
           (first | refine p_e rfl (fun w H => c_l1O rfl rfl (H.rowo 1) hy0) ?_ | refine p_n ?_)
           iterate 3 (first | refine p_q ?_ | refine p_n ?_)
           iterate 2 refine p_q ?_
           iterate 3 (first | refine p_q ?_ | refine p_n ?_)
           (first | refine p_e rfl (fun w H => c_l1O rfl rfl (H.rowo 1) hy1) ?_ | refine p_n ?_)
           iterate 3 (first | refine p_q ?_ | refine p_n ?_)
           refine p_q ?_
           (refine pl_done ?_)
           go_wp2_with fail
           (refine x_c H (sum1_any (RowAt.firm.lt _ (H.rowo 4) gd (by simp)) (fun j u hj => by rw [Nat.zero_add]; exact (H.rowo 4).cell hj) ⟨_, _, _, _, _, _, rfl, HN9.out, bv HB9⟩ man_bl exp_in (HT.out.fr H.fr)) ?_; clear H; rintro e w1 ⟨v10, x2, e2, mm, ee, rfl, hF, hD, hN1, hN2, hb2, he2⟩ H; replace hF := hF.kp)
           have HX2 := hid (hz0.symm.trans (round_clean hv64 HFN.out hN1 hN2))
           have HD2 := hid hD
           clear hN1 hN2 hD
           go_wp2_with fail
           (refine x_c H (roundF_any 0 (dn HD2) (by omega) (by omega) (HT.out.fr H.fr) HX2) ?_; clear H; rintro e w1 ⟨rfl, hF⟩ H; replace hF := hF.kp)
           go_wp2_with (first | refine x_q H ?_ | (revert H; refine x_s ?_; intro w1 hf H; (first | replace hf := hf.kp | clear hf)))
           (refine x_c H (isFin_any _ hz64 HZF) ?_; clear H; rintro e w1 ⟨rfl, hF⟩ H; replace hF := hF.kp)
           go_wp2_with (first | (refine is_blt (b := .append) rfl ?_; go_loud (refine wl_rw rfl (fun K hK => c_aprS H rfl rfl rfl 3 (H.rd (b := g2) (off := 0) (vs := eC (xr, xc, z)) List.prefix_rfl) rfl (eC_one _) (by omega) (by unfold maxLen; omega) (fun p1 c1 w1 S' hf H1 => hK _ _ ?_))); (clear hK K); (clear H; have H := H1; clear H1; (try dsimp only at H); (first | replace hf := hf.kp | clear hf)); (simp only [nrm, ↓reduceIte, Nat.reduceAdd])) | refine x_q H ?_ | (revert H; refine x_g ?_; (first | (have hh := g5; clear hh; intro g6 w1 hg hf H) | (have hh := g4; clear hh; intro g5 w1 hg hf H) | (have hh := g3; clear hh; intro g4 w1 hg hf H) | (have hh := g2; clear hh; intro g3 w1 hg hf H) | (have hh := g1; clear hh; intro g2 w1 hg hf H) | (have hh := g0; clear hh; intro g1 w1 hg hf H) | intro g0 w1 hg hf H); (first | replace hf := hf.kp | clear hf)))
           go_roundw
           case rel =>
            refine ⟨k + 1, _, _, _, _, _, S', rfl, rfl, by omega, hc1, hid (fun h => ⟨gs, rfl, by first | exact HPL1.out h | rfl⟩), ?_⟩
            have e1 : ((S.take (k + 1)).map clE).flatMap eC = ((S.take k).map clE).flatMap eC ++ eC (xr, xc, z) := by
             rw [tk_snoc HX.out, List.map_append, List.flatMap_append]
             simp only [List.map_cons, List.map_nil, List.flatMap_cons, List.flatMap_nil, List.append_nil, clE, hz0]
            rw [e1]
            (refine Hp.arr H ?_; repeat (first | exact Pm.nil _ | (apply Pm.cons; · (repeat first | exact Rm.here _ | apply Rm.there))))
           case measure => (simp only [sliceLen]; omega)
          ·have hyc : ¬ (yr : Int) = (xr : Int) := by omega
           clear hyx hyr
           go_wp2_with fail
           (revert H; refine w_pF 21 (.st 0 (.st 1 (.st 2 (.st 3 (.st 4 (.st 5 (.st 6 (.st 7 (.st 8 (.st 9 (.st 10 (.st 11 (.st 12 (.st 13 (.st 14 (.st 15 (.st 16 (.st 17 (.st 18 (.st 19 (.st 20 .done))))))))))))))))))))) ?_; intro w1 hf H; (first | replace hf := hf.kp | clear hf))
           iterate 4 refine p_q ?_
           iterate 3 (first | refine p_q ?_ | refine p_n ?_)
           (first | refine p_e rfl (fun w H => c_l1O rfl rfl (H.rowo 1) hy0) ?_ | refine p_n ?_)
           iterate 3 (first | refine p_q ?_ | refine p_n ?_)
           iterate 2 refine p_q ?_
           iterate 3 (first | refine p_q ?_ | refine p_n ?_)
           (first | refine p_e rfl (fun w H => c_l1O rfl rfl (H.rowo 1) hy1) ?_ | refine p_n ?_)
           iterate 3 (first | refine p_q ?_ | refine p_n ?_)
           refine p_q ?_
           (refine pl_done ?_)
           go_wp2_with fail
           (refine x_c H (sum1_any (RowAt.firm.lt _ (H.rowo 4) gd (by simp)) (fun j u hj => by rw [Nat.zero_add]; exact (H.rowo 4).cell hj) ⟨_, _, _, _, _, _, rfl, HN9.out, bv HB9⟩ man_bl exp_in (HT.out.fr H.fr)) ?_; clear H; rintro e w1 ⟨v10, x2, e2, mm, ee, rfl, hF, hD, hN1, hN2, hb2, he2⟩ H; replace hF := hF.kp)
           have HX2 := hid (hz0.symm.trans (round_clean hv64 HFN.out hN1 hN2))
           have HD2 := hid hD
           clear hN1 hN2 hD
           go_wp2_with fail
           (refine x_c H (roundF_any 0 (dn HD2) (by omega) (by omega) (HT.out.fr H.fr) HX2) ?_; clear H; rintro e w1 ⟨rfl, hF⟩ H; replace hF := hF.kp)
           go_wp2_with (first | refine x_q H ?_ | (revert H; refine x_s ?_; intro w1 hf H; (first | replace hf := hf.kp | clear hf)))
           (refine x_c H (isFin_any _ hz64 HZF) ?_; clear H; rintro e w1 ⟨rfl, hF⟩ H; replace hF := hF.kp)
           go_wp2_with (first | (refine is_blt (b := .append) rfl ?_; go_loud (refine wl_rw rfl (fun K hK => c_aprS H rfl rfl rfl 3 (H.rd (b := g2) (off := 0) (vs := eC (xr, xc, z)) List.prefix_rfl) rfl (eC_one _) (by omega) (by unfold maxLen; omega) (fun p1 c1 w1 S' hf H1 => hK _ _ ?_))); (clear hK K); (clear H; have H := H1; clear H1; (try dsimp only at H); (first | replace hf := hf.kp | clear hf)); (simp only [nrm, ↓reduceIte, Nat.reduceAdd])) | refine x_q H ?_ | (revert H; refine x_g ?_; (first | (have hh := g5; clear hh; intro g6 w1 hg hf H) | (have hh := g4; clear hh; intro g5 w1 hg hf H) | (have hh := g3; clear hh; intro g4 w1 hg hf H) | (have hh := g2; clear hh; intro g3 w1 hg hf H) | (have hh := g1; clear hh; intro g2 w1 hg hf H) | (have hh := g0; clear hh; intro g1 w1 hg hf H) | intro g0 w1 hg hf H); (first | replace hf := hf.kp | clear hf)))
           go_roundw
           case rel =>
            refine ⟨k + 1, _, _, _, _, _, S', rfl, rfl, by omega, hc1, hid (fun h => ⟨gs, rfl, by first | exact HPL1.out h | rfl⟩), ?_⟩
            have e1 : ((S.take (k + 1)).map clE).flatMap eC = ((S.take k).map clE).flatMap eC ++ eC (xr, xc, z) := by
             rw [tk_snoc HX.out, List.map_append, List.flatMap_append]
             simp only [List.map_cons, List.map_nil, List.flatMap_cons, List.flatMap_nil, List.append_nil, clE, hz0]
            rw [e1]
            (refine Hp.arr H ?_; repeat (first | exact Pm.nil _ | (apply Pm.cons; · (repeat first | exact Rm.here _ | apply Rm.there))))
           case measure => (simp only [sliceLen]; omega)
      ·have hkN : k = N := by omega
       have e0 : S.take k = S := List.take_of_length_le (by rw [HN.out]; omega)
       have hml : (S.map clE).length = k := by rw [List.length_map, HN.out]; omega
       have HML := hid hml
       rw [e0] at H
       have HKN := hid hkN
       clear e0 hkN hml
       go_wp2_with (refine x_q H ?_)
       refine Calls.mono (build_is _ rows cols hc2 (S.map clE) (S.map clE) HML.out ((EntR.of (H.rowo 3)).rd) (by omega) (sort_self (clE_sorted HSL.out)) (fun x hx => by
        obtain ⟨y, hy, rfl⟩ := List.mem_map.1 hx
        exact (HOS.out y hy).2.1)) ?_
       rintro e w1 ⟨v1, v2, v3, B, rfl, hF, hM, hB⟩
       obtain ⟨S1, S2, S3, H1⟩ := H.mat 5 6 7 hF hM hB
       clear H hF hM hB
       have H := H1
       clear H1
       rw [show pre (S.map clE) = pre S from funext (pre_clE S), rows_clE] at H
       simp only [List.length_map, List.length_range, HN.out] at H
       obtain ⟨q1, d1, rfl, _⟩ := (H.rowo 5).form
       obtain ⟨q2, d2, rfl, _⟩ := (H.rowo 6).form
       obtain ⟨q3, d3, rfl, _⟩ := (H.rowo 7).form
       go_wp2_with (revert H; refine xSF ?_; intro w1 H hk)
       refine c_postCT H rfl rfl rfl rfl ?_
       rw [← HSE.out]
       have H3 : Hp [] w w1 [.obj 5 S1 (RowAt 3 1 (.slice q1 (cols + 1) d1) (cols + 1) (((List.range (cols + 1)).map (pre S)).map iV) S1), .obj 6 S2 (RowAt 3 1 (.slice q2 N d2) N ((S.map (·.1)).map iV) S2), .obj 7 S3 (RowAt 25 1 (.slice q3 N d3) N (((S.map clE).map (·.2.2)).map uV) S3)] := H.arr (by repeat (first | exact Pm.nil _ | (apply Pm.cons; · (repeat first | exact Rm.here _ | apply Rm.there))))
       exact ⟨_, _, _, S1 ++ (S2 ++ S3), rfl, H.fr, mat_mk (by simpa [Ent.own] using H3.nodup) (H3.rowo 5) (H3.rowo 6) (H3.rowo 7) rfl rfl rfl (by simp) (by simp [HN.out]) (by simp [HN.out]), fun x hx => H3.fresh x (by simpa [Ent.own] using hx)⟩
end Go.Proofs.YtbiohhmpclnpgaaGreatDoor
