/-
  The integers: BitLen, TrailingZeros, Shift, Sqrt.
-/
import Derived.Test.YtalfhcndglbjhaaDoorIw34
import Derived.Test.YtalfhcndglbjhaaDoorIw30
namespace Go.Proofs
open Go.Shelf
set_option linter.unusedSimpArgs false
set_option linter.unusedVariables false
def Tryd.lays28_ren : Go.Shelf.Ren := ⟨fun | 28 => 74 | n => n, fun | 0 => 0 | 3 => 3 | 4 => 4 | 5 => 5 | 25 => 62 | 27 => 57 | 53 => 88 | n => n, fun | 0 => 0 | n => n⟩
theorem Tryd.lays28 : Go.Proofs.Lays7.n28 Tryd.prog Tryd.lays28_ren := {
  mixed := by kernel_rfl
  f28 := Tryd.func74.trans (congrArg some (by kernel_rfl))
  t0 := Tryd.underlying0
  a0 := Tryd.isAgg0
  z0 := Tryd.sizeOf0
  v0 := Tryd.zeroValue0
  i0 := by kernel_rfl
  t3 := Tryd.underlying3
  a3 := Tryd.isAgg3
  z3 := Tryd.sizeOf3
  v3 := Tryd.zeroValue3
  i3 := by kernel_rfl
  t4 := Tryd.underlying4
  a4 := Tryd.isAgg4
  z4 := Tryd.sizeOf4
  v4 := Tryd.zeroValue4
  i4 := by kernel_rfl
  t5 := Tryd.underlying5
  a5 := Tryd.isAgg5
  z5 := Tryd.sizeOf5
  v5 := Tryd.zeroValue5
  i5 := by kernel_rfl
  t25 := Tryd.underlying62
  a25 := Tryd.isAgg62
  z25 := Tryd.sizeOf62
  v25 := Tryd.zeroValue62
  i25 := by kernel_rfl
  t27 := Tryd.underlying57
  a27 := Tryd.isAgg57
  z27 := Tryd.sizeOf57
  v27 := Tryd.zeroValue57
  i27 := by kernel_rfl
  t53 := Tryd.underlying88
  a53 := Tryd.isAgg88
  z53 := Tryd.sizeOf88
  v53 := Tryd.zeroValue88
  i53 := by kernel_rfl
  g0 := by kernel_rfl }
end Go.Proofs
namespace Go.Proofs.YtalfhcndglbjhaaDoor
open Go.RowKit
set_option linter.unusedSimpArgs false
set_option linter.unusedVariables false
theorem ctz_tz : ∀ (f x : Nat), 0 < x → x < 2 ^ f → Lib.ctzFrom f x = tz x
  | 0, x, h0, h => by simp at h; omega
  | f + 1, x, h0, h => by
    rw [Lib.ctzFrom]
    by_cases h1 : x % 2 = 1
    · rw [if_pos h1, tz_odd h1]
    · rw [Nat.pow_succ] at h
      have e : x = 2 * (x / 2) := by omega
      rw [if_neg h1, ctz_tz f (x / 2) (by omega) (by omega)]
      conv => rhs; rw [e, tz_even (by omega)]
      omega
theorem tz32_any (w : World) (x : Nat) (h0 : x ≠ 0) (hx : x < 4294967296) (hT : TabAt 0 Lib.deBruijn32tab w) :
    Calls Tryd.prog 74 #[.int .u32 (x : Int)] w fun e w' => e = .returned (.int .i64 (tz x : Int)) ∧ Fr [] w w' := by
  refine Calls.mono (Any7.bits_TrailingZeros32 Tryd.lays28 x hx w (fun _ => hT)) ?_
  rintro e w' ⟨rfl, rfl⟩
  refine ⟨?_, Fr.refl _ _⟩
  rw [Lib.ctz, if_neg h0, ctz_tz 32 x (by omega) (by omega)]
theorem TabAt.fr {g : Nat} {tab : List Nat} {w w' : World} (h : TabAt g tab w) (k : Fr [] w w') : TabAt g tab w' := fun j hj => k.cell (h j hj) (by simp)
set_option maxHeartbeats 8000000 in
set_option maxRecDepth 100000 in
theorem bitLen_any {w : World} {p : Option Addr} {n c : Nat} (neg : Bool) (l : List Nat) (hl : l.length = n) (hn : n ≤ 1000000) (h : LR w p c l) :
    Calls Tryd.prog 44 #[.agg #[.bool neg, .slice p n c]] w fun e w' => e = .returned (.int .i64 (bl (val l) : Int)) ∧ Fr [] w w' := by
  subst hl
  have Hh := hid h
  have hA := hid (h.trim)
  have hlen := digs_len_le h.lim
  have H := Hp.start [] w
  clear h
  go_enter Tryd.func44, Tryd.ntmps44
  go_wp2_with (first | ((first | (refine is_load rfl ?_; refine wl_ev rfl (by first | exact c_ld H rfl rfl | exact c_ld0 H rfl rfl | exact c_ldz H rfl rfl | exact c_ldr H rfl rfl) ?_)      ) <;> (simp only [nrm, ↓reduceIte, Nat.reduceAdd])) | ((first | (refine is_box rfl ?_; first | (refine wl_rw rfl (fun K hK => la_boxN H rfl rfl (fun g w1 hg hf H1 => hK _ _ ?_))) | (refine wl_rw rfl (fun K hK => la_box1 H rfl rfl rfl (fun g w1 hg hf H1 => hK _ _ ?_)))) ); (clear hK K); (clear H; have H := H1; clear H1; (try dsimp only at H); (try (have hfk := hid hf; clear hf))); (simp only [nrm, ↓reduceIte, Nat.reduceAdd])))
  (refine Calls.mono (trim_any l rfl (Hh.out.fr H.fr)) ?_; rintro e w1 ⟨rfl, hF⟩; skip; have H1 := H.step hF (by simp); clear H; have H := H1; clear H1)
  go_wp2_with (first | ((first | (refine is_load rfl ?_; refine wl_ev rfl (by first | exact c_ld H rfl rfl | exact c_ld0 H rfl rfl | exact c_ldz H rfl rfl | exact c_ldr H rfl rfl) ?_)      ) <;> (simp only [nrm, ↓reduceIte, Nat.reduceAdd])) | ((first | (refine is_box rfl ?_; first | (refine wl_rw rfl (fun K hK => la_boxN H rfl rfl (fun g w1 hg hf H1 => hK _ _ ?_))) | (refine wl_rw rfl (fun K hK => la_box1 H rfl rfl rfl (fun g w1 hg hf H1 => hK _ _ ?_)))) ); (clear hK K); (clear H; have H := H1; clear H1; (try dsimp only at H); (try (have hfk := hid hf; clear hf))); (simp only [nrm, ↓reduceIte, Nat.reduceAdd])))
  (refine Calls.mono (length_any (val l) rfl (by omega) (hA.out.fr H.fr)) ?_; rintro e w1 ⟨rfl, hF⟩; skip; have H1 := H.step hF (by simp); clear H; have H := H1; clear H1)
  go_wp2_with (first | ((first | (refine is_load rfl ?_; refine wl_ev rfl (by first | exact c_ld H rfl rfl | exact c_ld0 H rfl rfl | exact c_ldz H rfl rfl | exact c_ldr H rfl rfl) ?_)      ) <;> (simp only [nrm, ↓reduceIte, Nat.reduceAdd])) | ((first | (refine is_box rfl ?_; first | (refine wl_rw rfl (fun K hK => la_boxN H rfl rfl (fun g w1 hg hf H1 => hK _ _ ?_))) | (refine wl_rw rfl (fun K hK => la_box1 H rfl rfl rfl (fun g w1 hg hf H1 => hK _ _ ?_)))) ); (clear hK K); (clear H; have H := H1; clear H1; (try dsimp only at H); (try (have hfk := hid hf; clear hf))); (simp only [nrm, ↓reduceIte, Nat.reduceAdd])))
  go_ret
  exact ⟨rfl, H.fr⟩
set_option maxHeartbeats 8000000 in
set_option maxRecDepth 100000 in
theorem trailing_any {w : World} {p : Option Addr} {n c : Nat} (neg : Bool) (l : List Nat) (hl : l.length = n) (hn : n ≤ 1000000) (h : LR w p c l) (hT : TabAt 0 Lib.deBruijn32tab w) :
    Calls Tryd.prog 45 #[.agg #[.bool neg, .slice p n c]] w fun e w' => e = .returned (.int .i64 (tz (val l) : Int)) ∧ Fr [] w w' := by
  subst hl
  have Hh := hid h
  have HT := hid hT
  have H := Hp.start [] w
  clear h hT
  go_enter Tryd.func45, Tryd.ntmps45
  go_wp2_with (first | ((first | (refine is_load rfl ?_; refine wl_ev rfl (by first | exact c_ld H rfl rfl | exact c_ld0 H rfl rfl | exact c_ldz H rfl rfl | exact c_ldr H rfl rfl) ?_) | (refine is_cmp rfl rfl ?_; first | (refine wl_ev rfl (by first | exact ev_cmpT rfl rfl rfl rfl | exact ev_cmpF rfl rfl rfl rfl) ?_) | (refine wl_cmp rfl rfl rfl rfl rfl (fun h => ?_) (fun h => ?_) <;> (simp only [cmpP] at h))) | (refine is_indexAddr rfl ?_; refine wl_ev rfl (c_ix rfl rfl rfl) ?_)) <;> (simp only [nrm, ↓reduceIte, Nat.reduceAdd])) | ((first | (refine is_box rfl ?_; first | (refine wl_rw rfl (fun K hK => la_boxN H rfl rfl (fun g w1 hg hf H1 => hK _ _ ?_))) | (refine wl_rw rfl (fun K hK => la_box1 H rfl rfl rfl (fun g w1 hg hf H1 => hK _ _ ?_)))) ); (clear hK K); (clear H; have H := H1; clear H1; (try dsimp only at H); (try (have hfk := hid hf; clear hf))); (simp only [nrm, ↓reduceIte, Nat.reduceAdd])))
  go_loopw [8] (fun s8 wr => ∃ i : Nat, i ≤ l.length ∧ s8 = .int .i64 (i : Int) ∧ Hid (∀ j, j < i → l[j]? = some 0) ∧ Hp [] w wr [.blk g [.bool neg, .slice p l.length c] 24]) (fun v _ => l.length - (intOf v).toNat)
  case atStart => exact ⟨0, Nat.zero_le _, rfl, hid (fun j hj => absurd hj (Nat.not_lt_zero _)), H⟩
  case round =>
    clear H
    obtain ⟨i, hi, rfl, Hz, H⟩ := hrel
    by_cases hin : i < l.length
    · obtain ⟨x, hx⟩ : ∃ x, l[i]? = some x := ⟨_, List.getElem?_eq_getElem hin⟩
      have hxv := limbs_at hx
      have hxB := Hh.out.lim.at hx
      have Hx := hid hx
      obtain ⟨b0, off, rfl, hb0, hcell⟩ := Hh.out.rd.rng (limbs_ne (i := i) hin)
      have H1 := H.pushRng (b := b0) (off := off) hb0 (by simp) hcell
      clear H hcell
      have H := H1
      clear H1
      clear hx
      by_cases h0 : x = 0
      · have Hx0 := hid h0
        have hx0 : (x : Int) = 0 := by omega
        clear h0
        rw [hx0] at hxv
        clear hx0
        go_wp2_with (first | ((first | (refine is_load rfl ?_; refine wl_ev rfl (by first | exact c_ld H rfl rfl | exact c_ld0 H rfl rfl | exact c_ldz H rfl rfl | exact c_ldr H rfl rfl) ?_) | (refine is_cmp rfl rfl ?_; first | (refine wl_ev rfl (by first | exact ev_cmpT rfl rfl rfl rfl | exact ev_cmpF rfl rfl rfl rfl) ?_) | (refine wl_cmp rfl rfl rfl rfl rfl (fun h => ?_) (fun h => ?_) <;> (simp only [cmpP] at h))) | (refine is_indexAddr rfl ?_; refine wl_ev rfl (c_ix rfl rfl rfl) ?_)) <;> (simp only [nrm, ↓reduceIte, Nat.reduceAdd])) | ((first | (refine is_box rfl ?_; first | (refine wl_rw rfl (fun K hK => la_boxN H rfl rfl (fun g w1 hg hf H1 => hK _ _ ?_))) | (refine wl_rw rfl (fun K hK => la_box1 H rfl rfl rfl (fun g w1 hg hf H1 => hK _ _ ?_)))) ); (clear hK K); (clear H; have H := H1; clear H1; (try dsimp only at H); (try (have hfk := hid hf; clear hf))); (simp only [nrm, ↓reduceIte, Nat.reduceAdd])))
        go_roundw
        case rel => exact ⟨i + 1, by omega, by go_num, hid (upto_step Hz.out (by have := Hx.out; rw [Hx0.out] at this; exact this)), H.sub (by repeat first | exact List.Sublist.refl _ | exact List.nil_sublist _ | apply List.Sublist.cons_cons | apply List.Sublist.cons)⟩
        case measure => (simp [intOf]; try omega)
      · have hx0 : 0 < x := Nat.pos_of_ne_zero h0
        have Hx0 := hid h0
        have HR : Hid (tz (val l) = 32 * i + tz x) := hid (tz_digs Hx.out h0 Hh.out.lim Hz.out)
        clear h0
        go_wp2_with (first | ((first | (refine is_load rfl ?_; refine wl_ev rfl (by first | exact c_ld H rfl rfl | exact c_ld0 H rfl rfl | exact c_ldz H rfl rfl | exact c_ldr H rfl rfl) ?_) | (refine is_cmp rfl rfl ?_; first | (refine wl_ev rfl (by first | exact ev_cmpT rfl rfl rfl rfl | exact ev_cmpF rfl rfl rfl rfl) ?_) | (refine wl_cmp rfl rfl rfl rfl rfl (fun h => ?_) (fun h => ?_) <;> (simp only [cmpP] at h))) | (refine is_indexAddr rfl ?_; refine wl_ev rfl (c_ix rfl rfl rfl) ?_)) <;> (simp only [nrm, ↓reduceIte, Nat.reduceAdd])) | ((first | (refine is_box rfl ?_; first | (refine wl_rw rfl (fun K hK => la_boxN H rfl rfl (fun g w1 hg hf H1 => hK _ _ ?_))) | (refine wl_rw rfl (fun K hK => la_box1 H rfl rfl rfl (fun g w1 hg hf H1 => hK _ _ ?_)))) ); (clear hK K); (clear H; have H := H1; clear H1; (try dsimp only at H); (try (have hfk := hid hf; clear hf))); (simp only [nrm, ↓reduceIte, Nat.reduceAdd])))
        (refine Calls.mono (tz32_any _ x Hx0.out hxB (TabAt.fr HT.out H.fr)) ?_; rintro e w1 ⟨rfl, hF⟩; skip; have H1 := H.step hF (by simp); clear H; have H := H1; clear H1)
        have ht : tz x ≤ 64 := by
          have h1 := ctz_tz 32 x hx0 (by omega)
          obtain ⟨_, _, h2⟩ := Lib.ctzFrom_spec 32 x hx0 (by omega)
          omega
        go_wp2_with (first | ((first | (refine is_load rfl ?_; refine wl_ev rfl (by first | exact c_ld H rfl rfl | exact c_ld0 H rfl rfl | exact c_ldz H rfl rfl | exact c_ldr H rfl rfl) ?_) | (refine is_cmp rfl rfl ?_; first | (refine wl_ev rfl (by first | exact ev_cmpT rfl rfl rfl rfl | exact ev_cmpF rfl rfl rfl rfl) ?_) | (refine wl_cmp rfl rfl rfl rfl rfl (fun h => ?_) (fun h => ?_) <;> (simp only [cmpP] at h))) | (refine is_indexAddr rfl ?_; refine wl_ev rfl (c_ix rfl rfl rfl) ?_)) <;> (simp only [nrm, ↓reduceIte, Nat.reduceAdd])) | ((first | (refine is_box rfl ?_; first | (refine wl_rw rfl (fun K hK => la_boxN H rfl rfl (fun g w1 hg hf H1 => hK _ _ ?_))) | (refine wl_rw rfl (fun K hK => la_box1 H rfl rfl rfl (fun g w1 hg hf H1 => hK _ _ ?_)))) ); (clear hK K); (clear H; have H := H1; clear H1; (try dsimp only at H); (try (have hfk := hid hf; clear hf))); (simp only [nrm, ↓reduceIte, Nat.reduceAdd])))
        go_ret
        refine ⟨?_, H.fr⟩
        rw [HR.out, show ((32 * i + tz x : Nat) : Int) = (i : Int) * 32 + (tz x : Int) by omega]
        rfl
    · have e : val l = 0 := by
        apply zeros_tail
        intro k x hk
        have h1 := (List.getElem?_eq_some_iff.1 hk).1
        have h2 := Hz.out k (by omega)
        rw [hk] at h2
        exact Option.some.inj h2
      have He := hid e
      clear e
      go_wp2_with (first | ((first | (refine is_load rfl ?_; refine wl_ev rfl (by first | exact c_ld H rfl rfl | exact c_ld0 H rfl rfl | exact c_ldz H rfl rfl | exact c_ldr H rfl rfl) ?_) | (refine is_cmp rfl rfl ?_; first | (refine wl_ev rfl (by first | exact ev_cmpT rfl rfl rfl rfl | exact ev_cmpF rfl rfl rfl rfl) ?_) | (refine wl_cmp rfl rfl rfl rfl rfl (fun h => ?_) (fun h => ?_) <;> (simp only [cmpP] at h))) | (refine is_indexAddr rfl ?_; refine wl_ev rfl (c_ix rfl rfl rfl) ?_)) <;> (simp only [nrm, ↓reduceIte, Nat.reduceAdd])) | ((first | (refine is_box rfl ?_; first | (refine wl_rw rfl (fun K hK => la_boxN H rfl rfl (fun g w1 hg hf H1 => hK _ _ ?_))) | (refine wl_rw rfl (fun K hK => la_box1 H rfl rfl rfl (fun g w1 hg hf H1 => hK _ _ ?_)))) ); (clear hK K); (clear H; have H := H1; clear H1; (try dsimp only at H); (try (have hfk := hid hf; clear hf))); (simp only [nrm, ↓reduceIte, Nat.reduceAdd])))
      go_ret
      exact ⟨by rw [He.out, tz_zero]; rfl, H.fr⟩
def shiftZ (z n : Int) : Int := if 0 ≤ n then z * 2 ^ n.toNat else z / 2 ^ (-n).toNat
set_option maxHeartbeats 8000000 in
set_option maxRecDepth 100000 in
theorem shift_far {w : World} {p : Option Addr} {n c : Nat} {k : Int} (neg : Bool) (l : List Nat) (hl : l.length = n) (hn : n ≤ 400000) (hk : k < -1048576 ∨ 1048576 < k) (hk2 : -9223372036854775808 ≤ k ∧ k ≤ 9223372036854775807) (h : LR w p c l) :
    Calls Tryd.prog 43 #[.agg #[.bool neg, .slice p n c], .int .i64 k] w fun e w' => ∃ v1, e = .returned (.tuple #[v1, .int .i64 3]) ∧ Fr [] w w' ∧ BigV w' v1 0 := by
  have H := Hp.start [] w
  rcases hk with hk | hk
  · go_enter Tryd.func43, Tryd.ntmps43
    go_wp2_with (first | ((first | (refine is_load rfl ?_; refine wl_ev rfl (by first | exact c_ld H rfl rfl | exact c_ld0 H rfl rfl | exact c_ldz H rfl rfl | exact c_ldr H rfl rfl) ?_) | (refine is_cmp rfl rfl ?_; first | (refine wl_ev rfl (by first | exact ev_cmpT rfl rfl rfl rfl | exact ev_cmpF rfl rfl rfl rfl) ?_) | (refine wl_cmp rfl rfl rfl rfl rfl (fun h => ?_) (fun h => ?_) <;> (simp only [cmpP] at h))) | (refine is_build rfl ?_; refine wl_ev rfl (by first | exact c_sta rfl | exact c_stp rfl) ?_) ) <;> (simp only [nrm, ↓reduceIte, Nat.reduceAdd])) | ((first | (refine is_buildSlice rfl ?_; first | (refine wl_rw rfl (fun K hK => c_s1t H rfl rfl rfl (h := (fun g w1 hg hf H1 => hK _ _ ?_)))) | (refine wl_rw rfl (fun K hK => c_s1c H rfl rfl (h := (fun g w1 hg hf H1 => hK _ _ ?_))))) | (refine is_alloc rfl ?_; refine wl_rw rfl (fun K hK => c_al H rfl (fun g w1 hg hf H1 => hK _ _ ?_))) | (refine is_box rfl ?_; first | (refine wl_rw rfl (fun K hK => la_boxN H rfl rfl (fun g w1 hg hf H1 => hK _ _ ?_))) | (refine wl_rw rfl (fun K hK => la_box1 H rfl rfl rfl (fun g w1 hg hf H1 => hK _ _ ?_)))) | (refine is_store rfl ?_; first | (refine wl_rw rfl (fun K hK => c_st H rfl rfl rfl (h := (fun w1 hf H1 => hK _ _ ?_)))) | (refine wl_rw rfl (fun K hK => c_stc H rfl rfl (h := (fun w1 hf H1 => hK _ _ ?_)))) | (refine wl_rw rfl (fun K hK => c_stn H rfl rfl rfl (h := (fun w1 hf H1 => hK _ _ ?_)))))); (clear hK K); (clear H; have H := H1; clear H1; (try dsimp only at H); (try (have hfk := hid hf; clear hf))); (simp only [nrm, ↓reduceIte, Nat.reduceAdd])) | (refine is_store rfl ?_; refine wl_rw rfl (fun K hK => c_st2 H rfl rfl rfl (h := (fun w1 hf H1 hk => hK _ _ ?_))); have hk2 := hid hk; clear hk; (clear hK K); (clear H; have H := H1; clear H1; (try dsimp only at H); (try (have hfk := hid hf; clear hf))); (simp only [nrm, ↓reduceIte, Nat.reduceAdd])))
    refine c_postCT H rfl rfl rfl rfl ?_
    exact ⟨_, rfl, H.fr, BigV.zero _⟩
  · go_enter Tryd.func43, Tryd.ntmps43
    go_wp2_with (first | ((first | (refine is_load rfl ?_; refine wl_ev rfl (by first | exact c_ld H rfl rfl | exact c_ld0 H rfl rfl | exact c_ldz H rfl rfl | exact c_ldr H rfl rfl) ?_) | (refine is_cmp rfl rfl ?_; first | (refine wl_ev rfl (by first | exact ev_cmpT rfl rfl rfl rfl | exact ev_cmpF rfl rfl rfl rfl) ?_) | (refine wl_cmp rfl rfl rfl rfl rfl (fun h => ?_) (fun h => ?_) <;> (simp only [cmpP] at h))) | (refine is_build rfl ?_; refine wl_ev rfl (by first | exact c_sta rfl | exact c_stp rfl) ?_) ) <;> (simp only [nrm, ↓reduceIte, Nat.reduceAdd])) | ((first | (refine is_buildSlice rfl ?_; first | (refine wl_rw rfl (fun K hK => c_s1t H rfl rfl rfl (h := (fun g w1 hg hf H1 => hK _ _ ?_)))) | (refine wl_rw rfl (fun K hK => c_s1c H rfl rfl (h := (fun g w1 hg hf H1 => hK _ _ ?_))))) | (refine is_alloc rfl ?_; refine wl_rw rfl (fun K hK => c_al H rfl (fun g w1 hg hf H1 => hK _ _ ?_))) | (refine is_box rfl ?_; first | (refine wl_rw rfl (fun K hK => la_boxN H rfl rfl (fun g w1 hg hf H1 => hK _ _ ?_))) | (refine wl_rw rfl (fun K hK => la_box1 H rfl rfl rfl (fun g w1 hg hf H1 => hK _ _ ?_)))) | (refine is_store rfl ?_; first | (refine wl_rw rfl (fun K hK => c_st H rfl rfl rfl (h := (fun w1 hf H1 => hK _ _ ?_)))) | (refine wl_rw rfl (fun K hK => c_stc H rfl rfl (h := (fun w1 hf H1 => hK _ _ ?_)))) | (refine wl_rw rfl (fun K hK => c_stn H rfl rfl rfl (h := (fun w1 hf H1 => hK _ _ ?_)))))); (clear hK K); (clear H; have H := H1; clear H1; (try dsimp only at H); (try (have hfk := hid hf; clear hf))); (simp only [nrm, ↓reduceIte, Nat.reduceAdd])) | (refine is_store rfl ?_; refine wl_rw rfl (fun K hK => c_st2 H rfl rfl rfl (h := (fun w1 hf H1 hk => hK _ _ ?_))); have hk2 := hid hk; clear hk; (clear hK K); (clear H; have H := H1; clear H1; (try dsimp only at H); (try (have hfk := hid hf; clear hf))); (simp only [nrm, ↓reduceIte, Nat.reduceAdd])))
    refine c_postCT H rfl rfl rfl rfl ?_
    exact ⟨_, rfl, H.fr, BigV.zero _⟩
end Go.Proofs.YtalfhcndglbjhaaDoor
