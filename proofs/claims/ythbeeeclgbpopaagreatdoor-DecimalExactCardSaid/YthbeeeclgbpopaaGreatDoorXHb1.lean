/-
  The document's decimals: the parts of a text.
-/
import Derived.Test.YthbeeeclgbpopaaGreatDoorXPd2
import Derived.Test.YthbeeeclgbpopaaGreatDoorXFa5
import Derived.Deep.DeepCutAuto
import Derived.Deep.CutBlock
namespace Go.Proofs.YthbeeeclgbpopaaGreatDoor
open Go.RowKit
set_option linter.unusedSimpArgs false
set_option linter.unusedVariables false
set_option maxHeartbeats 16000000
set_option maxRecDepth 100000

theorem results_tmp5 {fn : Func} {t u v x y : Tmp} (h : fn.results = #[.tmp t, .tmp u, .tmp v, .tmp x, .tmp y]) (tmps : Array Value) (P : Program) (w : World) :
    (results fn tmps).run P w = .ok (.tuple #[tmps.getD t undef, tmps.getD u undef, tmps.getD v undef, tmps.getD x undef, tmps.getD y undef]) w := by
  simp [results, h]
theorem ev_strPart {P : Program} {a : Act} {w : World} {o : Oper} {t : TypeId} {x y z : Operand} (ho : o.op = .slice t x (some y) (some z) none) {s : List UInt8} (hx : a.eval x = strV s) {k k' : IntKind} {i j : Int} (hy : a.eval y = .int k i) (hz : a.eval z = .int k' j) [h : Sy P t] {c : UInt8} (hc : s[i.toNat]? = some c) (h0 : 0 ≤ i := by omega) (h1 : j = i + 1 := by omega) : (execOp a.eval o).run P w = .ok (.value (strV [c])) w := by
  unfold strV at hx
  subst h1
  have hlt := (List.getElem?_eq_some_iff.1 hc).1
  have e := run_slice_string (P := P) (w := w) t ⟨s.toArray⟩ k k' i (i + 1) h.h h0 (by omega) (by rw [ba_size]; omega)
  have e2 : ((s.take (i + 1).toNat).drop i.toNat) = [c] := by
    have e3 : (i + 1).toNat = i.toNat + 1 := by omega
    rw [e3, List.take_add_one, hc, List.drop_append_of_le_length (by rw [List.length_take]; omega), List.drop_of_length_le (by rw [List.length_take]; omega)]
    rfl
  rw [ba_extract, e2] at e
  unfold execOp
  simp only [ho, hx, hy, hz, Option.map_none, Option.map_some, Sem.run_bind, run_sliceAt_string _ _ _ _ _ _ h.h, e, Result.andThen_ok, Sem.run_pure]
  rfl
theorem rdigit_any (w : World) (c : UInt8) {d : Bool} (hd : Hid (dig c = d)) :
    Calls Tryz.prog 96 #[.int .u8 (c.toNat : Int)] w fun e w' => e = .returned (.bool d) ∧ Fr [] w w' := by
  have H := Hp.start [] w
  have hdd := hd.out
  unfold dig at hdd
  generalize c.toNat = n at *
  cases d
  · have h1 : n < 48 ∨ (48 ≤ n ∧ 57 < n) := by simp at hdd; omega
    clear hdd hd
    rcases h1 with h1 | ⟨h1, h2⟩
    · go_enter Tryz.func96, Tryz.ntmps96
      go_wp2_with (refine x_q H ?_)
      go_ret
      exact ⟨rfl, H.fr⟩
    · go_enter Tryz.func96, Tryz.ntmps96
      go_wp2_with (refine x_q H ?_)
      go_ret
      exact ⟨rfl, H.fr⟩
  · have h1 : 48 ≤ n ∧ n ≤ 57 := by simpa using hdd
    clear hdd hd
    obtain ⟨h1, h2⟩ := h1
    go_enter Tryz.func96, Tryz.ntmps96
    go_wp2_with (refine x_q H ?_)
    go_ret
    exact ⟨rfl, H.fr⟩
/-- What the document's Split returns. -/
def rsp (s : List UInt8) : Value := match dread s with
  | none => .tuple #[.bool false, strV [], .int .i64 0, .int .i64 0, .bool false]
  | some (neg, ds, b, x) => .tuple #[.bool neg, strV ds, .int .i64 (b : Int), .int .i64 (max (min x 1000000000) (-1000000000)), .bool true]
theorem rsp_nil {s s' d r : List UInt8} {neg : Bool} {b : Nat} (hs : dsg s = (neg, s')) (hc : scan false s' = (d, b, r)) (hd : d = []) : rsp s = .tuple #[.bool false, strV [], .int .i64 0, .int .i64 0, .bool false] := by
  unfold rsp dread
  rw [hs]; simp only []; rw [hc, if_pos hd]
theorem rsp_end {s s' d : List UInt8} {neg : Bool} {b : Nat} (hs : dsg s = (neg, s')) (hc : scan false s' = (d, b, [])) (hd : d ≠ []) : rsp s = .tuple #[.bool neg, strV d, .int .i64 (b : Int), .int .i64 0, .bool true] := by
  unfold rsp dread
  rw [hs]; simp only []; rw [hc, if_neg hd]; rfl
theorem rsp_noE {s s' d t : List UInt8} {c : UInt8} {neg : Bool} {b : Nat} (hs : dsg s = (neg, s')) (hc : scan false s' = (d, b, c :: t)) (hd : d ≠ []) (he : isE c = false) : rsp s = .tuple #[.bool false, strV [], .int .i64 0, .int .i64 0, .bool false] := by
  unfold rsp dread
  rw [hs]; simp only []; rw [hc, if_neg hd]; simp only [he]; rfl
theorem rsp_bad {s s' d t u : List UInt8} {c : UInt8} {neg mn : Bool} {b : Nat} (hs : dsg s = (neg, s')) (hc : scan false s' = (d, b, c :: t)) (hd : d ≠ []) (he : isE c = true) (hu : dsg t = (mn, u)) (hb : u = [] ∨ u.all dig = false) : rsp s = .tuple #[.bool false, strV [], .int .i64 0, .int .i64 0, .bool false] := by
  unfold rsp dread dexp
  rw [hs]; simp only []; rw [hc, if_neg hd]; simp only [he, if_true, hu]
  rw [if_neg (by rintro ⟨h1, h2⟩; rcases hb with h | h; exact h1 h; rw [h2] at h; cases h)]; rfl
theorem rsp_fine {s s' d t u : List UInt8} {c : UInt8} {neg mn : Bool} {b : Nat} (hs : dsg s = (neg, s')) (hc : scan false s' = (d, b, c :: t)) (hd : d ≠ []) (he : isE c = true) (hu : dsg t = (mn, u)) (h0 : u ≠ []) (hb : u.all dig = true) {a : Int} (ha : a = (if mn then -1 else 1) * min (num u : Int) 1000000000) : rsp s = .tuple #[.bool neg, strV d, .int .i64 (b : Int), .int .i64 a, .bool true] := by
  unfold rsp dread dexp
  rw [hs]; simp only []; rw [hc, if_neg hd]; simp only [he, if_true, hu]
  rw [if_pos ⟨h0, hb⟩]
  simp only [Option.map_some]
  have : max (min (if mn = true then -(num u : Int) else (num u : Int)) 1000000000) (-1000000000) = a := by rw [ha]; cases mn <;> simp <;> omega
  rw [this]
theorem scan_dig {p : Bool} {c : UInt8} {r : List UInt8} (h : dig c = true) : scan p (c :: r) = (c :: (scan p r).1, (if p then 1 else 0) + (scan p r).2.1, (scan p r).2.2) := by rw [scan, if_pos h]
theorem scan_dot {c : UInt8} {r : List UInt8} (h : dig c = false) (hc : c = 46) : scan false (c :: r) = scan true r := by rw [scan, if_neg (by rw [h]; decide), if_pos ⟨hc, rfl⟩]
theorem scan_out {p : Bool} {c : UInt8} {r : List UInt8} (h : dig c = false) (hc : c ≠ 46 ∨ p = true) : scan p (c :: r) = ([], 0, c :: r) := by
  rw [scan, if_neg (by rw [h]; decide), if_neg (by rintro ⟨h1, h2⟩; rcases hc with h | h; exact h h1; rw [h2] at h; cases h)]
theorem u8_ne {c : UInt8} {n : Nat} (hn : n < 256) (h : c ≠ UInt8.ofNat n) : (c.toNat : Int) ≠ n := by
  intro e
  apply h
  have : c.toNat = n := by omega
  rw [← this]; simp
theorem isE_cases {c : UInt8} {e : Bool} (h : isE c = e) : (e = true ∧ (c = 101 ∨ c = 69 ∨ c = 100 ∨ c = 68)) ∨ (e = false ∧ (c.toNat : Int) ≠ 101 ∧ (c.toNat : Int) ≠ 69 ∧ (c.toNat : Int) ≠ 100 ∧ (c.toNat : Int) ≠ 68) := by
  cases e
  · unfold isE at h
    simp at h
    obtain ⟨⟨⟨h1, h2⟩, h3⟩, h4⟩ := h
    exact .inr ⟨rfl, u8_ne (n := 101) (by decide) h1, u8_ne (n := 69) (by decide) h2, u8_ne (n := 100) (by decide) h3, u8_ne (n := 68) (by decide) h4⟩
  · unfold isE at h
    simp at h
    exact .inl ⟨rfl, by rcases h with ((h | h) | h) | h; exact .inl h; exact .inr (.inl h); exact .inr (.inr (.inl h)); exact .inr (.inr (.inr h))⟩
theorem sign_at (s : List UInt8) (i : Nat) (z : Int) (hz : z = (i : Int)) (hi : i ≤ s.length) : ∃ (neg : Bool) (k : Nat) (sg : Bool), dsg (s.drop i) = (neg, s.drop k) ∧ k ≤ s.length ∧ i ≤ k ∧ k ≤ i + 1 ∧
    ((sg = false ∧ k = i ∧ neg = false ∧ s.length ≤ i) ∨ (sg = false ∧ k = i ∧ neg = false ∧ i < s.length ∧ ∃ c, s[z.toNat]? = some c ∧ (c.toNat : Int) ≠ 43 ∧ (c.toNat : Int) ≠ 45) ∨ (sg = true ∧ k = i + 1 ∧ i < s.length ∧ neg = true ∧ ∃ c, s[z.toNat]? = some c ∧ (c.toNat : Int) ≤ 45 ∧ 45 ≤ (c.toNat : Int)) ∨ (sg = true ∧ k = i + 1 ∧ i < s.length ∧ neg = false ∧ ∃ c, s[z.toNat]? = some c ∧ (c.toNat : Int) ≤ 43 ∧ 43 ≤ (c.toNat : Int))) := by
  subst hz
  rw [Int.toNat_natCast]
  by_cases h : i < s.length
  · have hd : s.drop i = s[i] :: s.drop (i + 1) := List.drop_eq_getElem_cons h
    have hg : s[i]? = some s[i] := List.getElem?_eq_getElem h
    by_cases h1 : s[i] = 45
    · exact ⟨true, i + 1, true, by rw [hd, h1]; rfl, by omega, by omega, by omega, .inr (.inr (.inl ⟨rfl, rfl, h, rfl, _, hg, by rw [h1]; decide, by rw [h1]; decide⟩))⟩
    · by_cases h2 : s[i] = 43
      · exact ⟨false, i + 1, true, by rw [hd, h2]; rfl, by omega, by omega, by omega, .inr (.inr (.inr ⟨rfl, rfl, h, rfl, _, hg, by rw [h2]; decide, by rw [h2]; decide⟩))⟩
      · refine ⟨false, i, false, ?_, by omega, by omega, by omega, .inr (.inl ⟨rfl, rfl, rfl, h, _, hg, u8_ne (n := 43) (by decide) h2, u8_ne (n := 45) (by decide) h1⟩)⟩
        rw [hd, dsg, if_neg h1, if_neg h2]
  · refine ⟨false, i, false, ?_, by omega, by omega, by omega, .inl ⟨rfl, rfl, rfl, by omega⟩⟩
    rw [List.drop_of_length_le (by omega)]
    rfl
set_option maxHeartbeats 32000000 in
theorem rsplit_any (w : World) (s : List UInt8) (hs : s.length ≤ 1000000) {V : Value} (hV : Hid (rsp s = V)) :
    Calls Tryz.prog 40 #[strV s] w fun e w' => e = .returned V ∧ Fr [] w w' := by
  obtain ⟨neg, k, sg, hsg, hk, _, hk1, hall⟩ := sign_at s 0 0 rfl (Nat.zero_le _)
  rw [List.drop_zero] at hsg
  have HSG := hid hsg
  have HALL := hid hall
  clear hsg hall
  have H := Hp.start [] w
  go_enter Tryz.func40, Tryz.ntmps40
  go_upto_region 2 with (first | refine x_q H ?_ | refine x_cm (fun h => ?_) (fun h => ?_) | (revert H; (first | (refine x_g ?_; intro g w1 hg hf H) | (refine x_s ?_; intro w1 hf H)); (first | replace hf := hf.kp | clear hf)))
  go_cut [22] (fun s22 wx => s22 = .bool sg ∧ Hp [] w wx [])
  case first =>
    rcases HALL.out with ⟨rfl, rfl, rfl, h1⟩ | ⟨rfl, rfl, rfl, h1, c, HC0, hc1, hc2⟩ | ⟨rfl, rfl, h1, rfl, c, HC0, hc1, hc2⟩ | ⟨rfl, rfl, h1, rfl, c, HC0, hc1, hc2⟩
    all_goals
      go_wp2_with (first | refine x_e (ev_strIdx rfl rfl rfl (by omega) (by assumption)) ?_ | refine x_q H ?_ | refine x_e (ev_strLen rfl rfl) ?_)
      go_meet
      case rel => exact ⟨rfl, H⟩
  case rest =>
    clear H
    obtain ⟨rfl, H⟩ := hcut
    go_upto_if 22 with fail
    go_cut [2, 7] (fun s2 s7 wx => s2 = .bool neg ∧ s7 = .int .i64 (k : Int) ∧ Hp [] w wx [])
    case first =>
      rcases HALL.out with ⟨rfl, rfl, rfl, h1⟩ | ⟨rfl, rfl, rfl, h1, c, HC0, hc1, hc2⟩ | ⟨rfl, rfl, h1, rfl, c, HC0, hc1, hc2⟩ | ⟨rfl, rfl, h1, rfl, c, HC0, hc1, hc2⟩
      all_goals
        go_wp2_with (first | refine x_e (ev_strIdx rfl rfl rfl (by omega) (by assumption)) ?_ | refine x_q H ?_)
        go_meet
        case rel => exact ⟨rfl, rfl, H⟩
    case rest =>
      clear H HALL
      obtain ⟨rfl, rfl, H⟩ := hcut
      go_wp2_with fail
      go_loopw [3, 4, 7, 8] (fun s3 s4 s7 s8 wr => ∃ (i bh : Nat) (d : List UInt8) (pt : Bool), i ≤ s.length ∧ d.length ≤ i ∧ bh ≤ i ∧ s3 = strV d ∧ s4 = .int .i64 (bh : Int) ∧ s7 = .int .i64 (i : Int) ∧ s8 = .bool pt ∧ Hid (scan false (s.drop k) = (d ++ (scan pt (s.drop i)).1, bh + (scan pt (s.drop i)).2.1, (scan pt (s.drop i)).2.2)) ∧ Hp [] w wr []) (fun _ _ v _ _ => s.length - (intOf v).toNat)
      case atStart => exact ⟨k, 0, [], false, hk, Nat.zero_le _, Nat.zero_le _, rfl, rfl, rfl, rfl, hid (by simp), H⟩
      case round =>
        clear H
        obtain ⟨i, bh, d, pt, hi, hdl, hbh, rfl, rfl, rfl, rfl, HSC, H⟩ := hrel
        by_cases hil : i < s.length
        · obtain ⟨c, hc⟩ : ∃ c, s[i]? = some c := ⟨_, List.getElem?_eq_getElem hil⟩
          have hdr : s.drop i = c :: s.drop (i + 1) := by rw [List.drop_eq_getElem_cons hil]; congr 1; have := List.getElem?_eq_getElem hil; rw [hc] at this; injection this with h; exact h.symm
          have HCI : s[(i : Int).toNat]? = some c := hc
          have hsc := HSC.out
          rw [hdr] at hsc
          clear hc HSC
          obtain ⟨g, hg⟩ : ∃ g, dig c = g := ⟨_, rfl⟩
          have HG := hid hg
          cases g
          · by_cases hx : c = 46 ∧ pt = false
            · obtain ⟨h46, rfl⟩ := hx
              rw [scan_dot hg h46] at hsc
              have HSC := hid hsc
              have hc4 : (c.toNat : Int) ≤ 46 ∧ 46 ≤ (c.toNat : Int) := by rw [h46]; decide
              obtain ⟨hc4, hc5⟩ := hc4
              clear hsc hg h46 hdr
              go_wp2_with (first | refine x_e (ev_strIdx rfl rfl rfl (by omega) (by assumption)) ?_ | refine x_q H ?_ | refine x_e (ev_strLen rfl rfl) ?_)
              (refine x_c H (rdigit_any _ c HG) ?_; clear H; rintro e w1 ⟨rfl, hF⟩ H; replace hF := hF.kp; skip)
              go_wp2_with (first | refine x_e (ev_strIdx rfl rfl rfl (by omega) (by assumption)) ?_ | refine x_q H ?_)
              go_roundw
              case rel => exact ⟨i + 1, bh, d, true, by omega, by omega, by omega, rfl, rfl, by first | rfl | go_num, rfl, HSC, H⟩
              case measure => (simp [intOf]; try omega)
            · rw [scan_out hg (by by_cases h : c = 46; right; cases pt; exact absurd ⟨h, rfl⟩ hx; rfl; exact .inl h), List.append_nil, Nat.add_zero] at hsc
              have HSC := hid hsc
              have hx2 : (c.toNat : Int) ≠ 46 ∨ ((c.toNat : Int) ≤ 46 ∧ 46 ≤ (c.toNat : Int) ∧ pt = true) := by
                by_cases h : c = 46
                · exact .inr ⟨by rw [h]; decide, by rw [h]; decide, by cases pt; exact absurd ⟨h, rfl⟩ hx; rfl⟩
                · exact .inl (u8_ne (n := 46) (by decide) h)
              clear hsc hg hx hdr
              go_upto_region 6 with (first | refine x_q H ?_ | refine x_cm (fun h => ?_) (fun h => ?_) | (revert H; (first | (refine x_g ?_; intro g w1 hg hf H) | (refine x_s ?_; intro w1 hf H)); (first | replace hf := hf.kp | clear hf)))
              go_cut [45] (fun s45 wx => s45 = .bool false ∧ Hp [] w wx [])
              case first =>
                rcases hx2 with hx2 | ⟨hx2, hx3, rfl⟩
                all_goals
                  go_wp2_with (first | refine x_e (ev_strIdx rfl rfl rfl (by omega) (by assumption)) ?_ | refine x_q H ?_ | refine x_e (ev_strLen rfl rfl) ?_)
                  (refine x_c H (rdigit_any _ c HG) ?_; clear H; rintro e w1 ⟨rfl, hF⟩ H; replace hF := hF.kp; skip)
                  go_wp2_with (first | refine x_e (ev_strIdx rfl rfl rfl (by omega) (by assumption)) ?_ | refine x_q H ?_)
                  go_meet
                  case rel => exact ⟨rfl, H⟩
              case rest =>
                clear H hx2
                obtain ⟨rfl, H⟩ := hcut
                by_cases hd : d = []
                · have HVV := hid ((rsp_nil HSG.out HSC.out hd).symm.trans hV.out)
                  have hd0 : d.length ≤ 0 := by rw [hd]; exact Nat.le_refl _
                  clear HSC hd
                  go_wp2_with (first | refine x_q H ?_ | refine x_e (ev_strLen rfl rfl) ?_)
                  ((try simp only [Exit.inBlock, Exit.then]); refine bodyPost_ret (results_tmp5 rfl _ _ _) rfl ?_)
                  exact ⟨congrArg Ending.returned HVV.out, H.fr⟩
                · have hd0 : 0 < d.length := List.length_pos_iff.2 hd
                  have HD := hid hd
                  obtain ⟨e, he⟩ : ∃ e, isE c = e := ⟨_, rfl⟩
                  have HE := hid he
                  have HEC := hid (isE_cases he)
                  clear hd he
                  go_upto_region 17 with (first | refine x_e (ev_strIdx rfl rfl rfl (by omega) (by assumption)) ?_ | refine x_q H ?_ | refine x_cm (fun h => ?_) (fun h => ?_) | refine x_e (ev_strLen rfl rfl) ?_)
                  go_cut [93] (fun s93 wx => s93 = .bool (!e) ∧ Hp [] w wx [])
                  case first =>
                    rcases HEC.out with ⟨rfl, h⟩ | ⟨rfl, h1, h2, h3, h4⟩
                    · have h5 : (101 ≤ (c.toNat : Int) ∧ (c.toNat : Int) ≤ 101) ∨ (69 ≤ (c.toNat : Int) ∧ (c.toNat : Int) ≤ 69) ∨ (100 ≤ (c.toNat : Int) ∧ (c.toNat : Int) ≤ 100) ∨ (68 ≤ (c.toNat : Int) ∧ (c.toNat : Int) ≤ 68) := by
                        rcases h with rfl | rfl | rfl | rfl <;> decide
                      clear h HG HE HEC
                      rcases h5 with ⟨h6, h7⟩ | ⟨h6, h7⟩ | ⟨h6, h7⟩ | ⟨h6, h7⟩
                      all_goals
                        go_wp2_with (first | refine x_e (ev_strIdx rfl rfl rfl (by omega) (by assumption)) ?_ | refine x_q H ?_)
                        go_meet
                        case rel => exact ⟨rfl, H⟩
                    · go_wp2_with (first | refine x_e (ev_strIdx rfl rfl rfl (by omega) (by assumption)) ?_ | refine x_q H ?_)
                      go_meet
                      case rel => exact ⟨rfl, H⟩
                  case rest =>
                    clear H HEC
                    obtain ⟨rfl, H⟩ := hcut
                    cases e
                    · have HVV := hid ((rsp_noE HSG.out HSC.out HD.out HE.out).symm.trans hV.out)
                      go_wp2_with fail
                      ((try simp only [Exit.inBlock, Exit.then]); refine bodyPost_ret (results_tmp5 rfl _ _ _) rfl ?_)
                      exact ⟨congrArg Ending.returned HVV.out, H.fr⟩
                    · obtain ⟨mn, k2, sg2, hu, hk2, hik, hki, hall⟩ := sign_at s (i + 1) ((i : Int) + 1) rfl (by omega)
                      have HU := hid hu
                      have HALL := hid hall
                      have HBAD := fun hb => (rsp_bad HSG.out HSC.out HD.out HE.out hu hb).symm.trans hV.out
                      have HFINE : Hid (s.drop k2 ≠ [] → (s.drop k2).all dig = true → ∀ a : Int, a = (if mn then -1 else 1) * min (num (s.drop k2) : Int) 1000000000 → Value.tuple #[.bool neg, strV d, .int .i64 (bh : Int), .int .i64 a, .bool true] = V) := hid (fun h0 hb a ha => (rsp_fine HSG.out HSC.out HD.out HE.out hu h0 hb ha).symm.trans hV.out)
                      have HBAD := hid HBAD
                      clear hu hall HE HG HSC HU
                      go_upto_region 21 with (first | refine x_q H ?_ | refine x_cm (fun h => ?_) (fun h => ?_))
                      go_cut [111] (fun s111 wx => s111 = .bool sg2 ∧ Hp [] w wx [])
                      case first =>
                        rcases HALL.out with ⟨rfl, rfl, rfl, h1⟩ | ⟨rfl, rfl, rfl, h1, c, HC0, hc1, hc2⟩ | ⟨rfl, rfl, h1, rfl, c, HC0, hc1, hc2⟩ | ⟨rfl, rfl, h1, rfl, c, HC0, hc1, hc2⟩
                        all_goals
                          go_wp2_with (first | refine x_e (ev_strIdx rfl rfl rfl (by omega) (by assumption)) ?_ | refine x_q H ?_ | refine x_e (ev_strLen rfl rfl) ?_)
                          go_meet
                          case rel => exact ⟨rfl, H⟩
                      case rest =>
                        clear H
                        obtain ⟨rfl, H⟩ := hcut
                        go_upto_if 111 with fail
                        go_cut [9, 7] (fun s9 s7 wx => s9 = .bool mn ∧ s7 = .int .i64 (k2 : Int) ∧ Hp [] w wx [])
                        case first =>
                          rcases HALL.out with ⟨rfl, rfl, rfl, h1⟩ | ⟨rfl, rfl, rfl, h1, c, HC0, hc1, hc2⟩ | ⟨rfl, rfl, h1, rfl, c, HC0, hc1, hc2⟩ | ⟨rfl, rfl, h1, rfl, c, HC0, hc1, hc2⟩
                          all_goals
                            go_wp2_with (first | refine x_e (ev_strIdx rfl rfl rfl (by omega) (by assumption)) ?_ | refine x_q H ?_)
                            go_meet
                            case rel => exact ⟨rfl, by first | rfl | go_num, H⟩
                        case rest =>
                          clear H HALL
                          obtain ⟨rfl, rfl, H⟩ := hcut
                          by_cases hkl : k2 < s.length
                          · go_wp2_with (first | refine x_q H ?_ | refine x_e (ev_strLen rfl rfl) ?_)
                            go_loopw [2, 3, 4, 5, 7] (fun s2 s3 s4 s5 s7 wr => ∃ (j : Nat) (pre : List UInt8) (acc : Int), k2 ≤ j ∧ j ≤ s.length ∧ s2 = .bool neg ∧ s3 = strV d ∧ s4 = .int .i64 (bh : Int) ∧ s5 = .int .i64 acc ∧ s7 = .int .i64 (j : Int) ∧ 0 ≤ acc ∧ acc ≤ 1000000000 ∧ Hid (acc = min (num pre : Int) 1000000000) ∧ Hid (s.drop k2 = pre ++ s.drop j) ∧ Hid (pre.all dig = true) ∧ Hp [] w wr []) (fun _ _ _ _ v _ => s.length - (intOf v).toNat)
                            case atStart => exact ⟨k2, [], 0, Nat.le_refl _, hk2, rfl, rfl, rfl, rfl, rfl, by omega, by omega, hid rfl, hid rfl, hid rfl, H⟩
                            case round =>
                              clear H
                              obtain ⟨j, pre, acc, hkj, hj, rfl, rfl, rfl, rfl, rfl, ha0, ha1, HACC, HPRE, HDG, H⟩ := hrel
                              by_cases hjl : j < s.length
                              · obtain ⟨c2, hc2⟩ : ∃ c, s[j]? = some c := ⟨_, List.getElem?_eq_getElem hjl⟩
                                have hdr2 : s.drop j = c2 :: s.drop (j + 1) := by rw [List.drop_eq_getElem_cons hjl]; congr 1; have := List.getElem?_eq_getElem hjl; rw [hc2] at this; injection this with h; exact h.symm
                                have HCJ : s[(j : Int).toNat]? = some c2 := hc2
                                have HPR := HPRE.out
                                rw [hdr2] at HPR
                                clear hc2 HPRE HCI
                                obtain ⟨g, hg⟩ : ∃ g, dig c2 = g := ⟨_, rfl⟩
                                have HG := hid hg
                                cases g
                                · have HVV := hid (HBAD.out (.inr (by rw [HPR]; simp [hg])))
                                  clear hg hdr2 HPR
                                  go_wp2_with (first | refine x_e (ev_strIdx rfl rfl rfl (by omega) (by assumption)) ?_ | refine x_q H ?_ | refine x_e (ev_strLen rfl rfl) ?_)
                                  (refine x_c H (rdigit_any _ c2 HG) ?_; clear H; rintro e w1 ⟨rfl, hF⟩ H; replace hF := hF.kp; skip)
                                  go_wp2_with fail
                                  ((try simp only [Exit.inBlock, Exit.then]); refine bodyPost_ret (results_tmp5 rfl _ _ _) rfl ?_)
                                  exact ⟨congrArg Ending.returned HVV.out, H.fr⟩
                                · have h48 := dig_le hg
                                  obtain ⟨h48, h57⟩ := h48
                                  obtain ⟨acc2, hacc2⟩ : ∃ z, min (10 * acc + ((c2.toNat : Int) - 48)) 1000000000 = z := ⟨_, rfl⟩
                                  have HA2 := hid hacc2
                                  have HACC2 : Hid (acc2 = min (num (pre ++ [c2]) : Int) 1000000000) := hid (by
                                    rw [num_app, num_one, List.length_singleton, Nat.pow_one]
                                    have := HACC.out
                                    omega)
                                  have HPR2 : Hid (s.drop k2 = (pre ++ [c2]) ++ s.drop (j + 1)) := hid (by rw [HPR, List.append_assoc]; rfl)
                                  have HDG2 : Hid ((pre ++ [c2]).all dig = true) := hid (by rw [List.all_append, HDG.out]; simp [hg])
                                  have hb0 : 0 ≤ acc2 ∧ acc2 ≤ 1000000000 := by omega
                                  obtain ⟨hb0, hb1⟩ := hb0
                                  clear hg hdr2 HPR hacc2 HACC HDG
                                  go_wp2_with (first | refine x_e (ev_strIdx rfl rfl rfl (by omega) (by assumption)) ?_ | refine x_q H ?_ | refine x_e (ev_strLen rfl rfl) ?_)
                                  (refine x_c H (rdigit_any _ c2 HG) ?_; clear H; rintro e w1 ⟨rfl, hF⟩ H; replace hF := hF.kp; skip)
                                  go_wp2_with (first | refine x_e (ev_strIdx rfl rfl rfl (by omega) (by assumption)) ?_ | refine x_q H ?_ | refine x_e (ev_min (z := acc2) rfl rfl rfl (by have := HA2.out; omega)) ?_)
                                  go_roundw
                                  case rel => exact ⟨j + 1, pre ++ [c2], acc2, by omega, by omega, rfl, rfl, rfl, rfl, by first | rfl | go_num, hb0, hb1, HACC2, HPR2, HDG2, H⟩
                                  case measure => (simp [intOf]; try omega)
                              · obtain rfl : j = s.length := by omega
                                have HPR := HPRE.out
                                rw [List.drop_of_length_le (Nat.le_refl _), List.append_nil] at HPR
                                have hne : s.drop k2 ≠ [] := by
                                  intro h
                                  have := congrArg List.length h
                                  rw [List.length_drop, List.length_nil] at this
                                  omega
                                have hF2 := HFINE.out hne (by rw [HPR]; exact HDG.out)
                                rw [HPR] at hF2
                                have hA := HACC.out
                                cases mn
                                · have HVV := hid (hF2 acc (by rw [hA]; simp))
                                  clear hne hF2 hA HPR HPRE HBAD HFINE HCI
                                  go_wp2_with (first | refine x_q H ?_ | refine x_e (ev_strLen rfl rfl) ?_)
                                  ((try simp only [Exit.inBlock, Exit.then]); refine bodyPost_ret (results_tmp5 rfl _ _ _) rfl ?_)
                                  exact ⟨congrArg Ending.returned HVV.out, H.fr⟩
                                · have HVV := hid (hF2 (-acc) (by rw [hA]; simp))
                                  clear hne hF2 hA HPR HPRE HBAD HFINE HCI
                                  go_wp2_with (first | refine x_q H ?_ | refine x_e (ev_strLen rfl rfl) ?_ | refine x_e (ev_negZ rfl rfl (by simp only [inr]; omega)) ?_)
                                  ((try simp only [Exit.inBlock, Exit.then]); refine bodyPost_ret (results_tmp5 rfl _ _ _) rfl ?_)
                                  exact ⟨congrArg Ending.returned HVV.out, H.fr⟩
                          · have HVV := hid (HBAD.out (.inl (List.drop_of_length_le (by omega))))
                            clear HBAD HFINE
                            go_wp2_with (first | refine x_q H ?_ | refine x_e (ev_strLen rfl rfl) ?_)
                            ((try simp only [Exit.inBlock, Exit.then]); refine bodyPost_ret (results_tmp5 rfl _ _ _) rfl ?_)
                            exact ⟨congrArg Ending.returned HVV.out, H.fr⟩
          · rw [scan_dig hg] at hsc
            obtain ⟨d', hd'⟩ : ∃ d', d ++ [c] = d' := ⟨_, rfl⟩
            have HD' := hid hd'
            have hdl' : d'.length ≤ i + 1 := by rw [← hd', List.length_append, List.length_singleton]; omega
            have hc46 : (c.toNat : Int) ≠ 46 := (u8_ne (n := 46) (by decide) (by rintro rfl; cases hg))
            cases pt
            · have HSC : Hid (scan false (s.drop k) = (d' ++ (scan false (s.drop (i + 1))).1, bh + (scan false (s.drop (i + 1))).2.1, (scan false (s.drop (i + 1))).2.2)) := hid (by rw [hsc, ← hd']; simp)
              clear hsc hg hd' hdr
              go_wp2_with (first | refine x_e (ev_strIdx rfl rfl rfl (by omega) (by assumption)) ?_ | refine x_q H ?_ | refine x_e (ev_strLen rfl rfl) ?_)
              (refine x_c H (rdigit_any _ c HG) ?_; clear H; rintro e w1 ⟨rfl, hF⟩ H; replace hF := hF.kp; skip)
              go_wp2_with (first | refine x_e (ev_strIdx rfl rfl rfl (by omega) (by assumption)) ?_ | refine x_q H ?_ | refine x_e (ev_strPart rfl rfl rfl rfl (by assumption)) ?_ | refine x_e (ev_strCat rfl rfl rfl HD' (by simp only [List.length_singleton]; omega)) ?_)
              go_roundw
              case rel => exact ⟨i + 1, bh, d', false, by omega, by omega, by omega, rfl, rfl, by first | rfl | go_num, rfl, HSC, H⟩
              case measure => (simp [intOf]; try omega)
            · have HSC : Hid (scan false (s.drop k) = (d' ++ (scan true (s.drop (i + 1))).1, (bh + 1) + (scan true (s.drop (i + 1))).2.1, (scan true (s.drop (i + 1))).2.2)) := hid (by rw [hsc, ← hd']; simp; omega)
              clear hsc hg hd' hdr
              go_wp2_with (first | refine x_e (ev_strIdx rfl rfl rfl (by omega) (by assumption)) ?_ | refine x_q H ?_ | refine x_e (ev_strLen rfl rfl) ?_)
              (refine x_c H (rdigit_any _ c HG) ?_; clear H; rintro e w1 ⟨rfl, hF⟩ H; replace hF := hF.kp; skip)
              go_wp2_with (first | refine x_e (ev_strIdx rfl rfl rfl (by omega) (by assumption)) ?_ | refine x_q H ?_ | refine x_e (ev_strPart rfl rfl rfl rfl (by assumption)) ?_ | refine x_e (ev_strCat rfl rfl rfl HD' (by simp only [List.length_singleton]; omega)) ?_)
              go_roundw
              case rel => exact ⟨i + 1, bh + 1, d', true, by omega, by omega, by omega, rfl, by first | rfl | go_num, by first | rfl | go_num, rfl, HSC, H⟩
              case measure => (simp [intOf]; try omega)
        · obtain rfl : i = s.length := by omega
          have hsc := HSC.out
          rw [List.drop_of_length_le (Nat.le_refl _), show scan pt [] = ([], 0, []) by cases pt <;> rfl, List.append_nil, Nat.add_zero] at hsc
          by_cases hd : d = []
          · have hVV := (rsp_nil HSG.out hsc hd).symm.trans hV.out
            have hd0 : d.length ≤ 0 := by rw [hd]; exact Nat.le_refl _
            have HVV := hid hVV
            clear hsc HSC hd hVV
            go_wp2_with (first | refine x_q H ?_ | refine x_e (ev_strLen rfl rfl) ?_)
            ((try simp only [Exit.inBlock, Exit.then]); refine bodyPost_ret (results_tmp5 rfl _ _ _) rfl ?_)
            exact ⟨congrArg Ending.returned HVV.out, H.fr⟩
          · have hVV := (rsp_end HSG.out hsc hd).symm.trans hV.out
            have hd0 : 0 < d.length := List.length_pos_iff.2 hd
            have HVV := hid hVV
            clear hsc HSC hd hVV
            go_wp2_with (first | refine x_q H ?_ | refine x_e (ev_strLen rfl rfl) ?_)
            ((try simp only [Exit.inBlock, Exit.then]); refine bodyPost_ret (results_tmp5 rfl _ _ _) rfl ?_)
            exact ⟨congrArg Ending.returned HVV.out, H.fr⟩
end Go.Proofs.YthbeeeclgbpopaaGreatDoor
