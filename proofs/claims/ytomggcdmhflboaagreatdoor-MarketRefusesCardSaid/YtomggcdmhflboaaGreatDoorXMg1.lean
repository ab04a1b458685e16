import Derived.Test.YtomggcdmhflboaaGreatDoorXMf2
import Derived.Test.YtomggcdmhflboaaGreatDoorXMd9
import Derived.Test.YtomggcdmhflboaaGreatDoorXMg0
import Derived.Test.YtomggcdmhflboaaGreatDoorXIz13
namespace Go.Proofs.YtomggcdmhflboaaGreatDoor
open Go.RowKit
set_option linter.unusedSimpArgs false
set_option linter.unusedVariables false
set_option maxHeartbeats 8000000
set_option maxRecDepth 100000
attribute [local irreducible] wpList Code.wp Plan.wp stsE mixE pre cntE
theorem strs_of_reads {P : Program} {W : World} {name : String} {g : Nat} {t e : TypeId} {n : Nat}
  (hg : P.globalNamed name = some g) (hty : (P.globals[g]?).map (·.type) = some t) (ht : P.underlying t = some (.array n e)) (he : P.underlying e = some .string) (hce : P.cellsOf e = 1) {ss : List (List UInt8)} (hn : ss.length = n)
  (h : Lib.VarReads P W name (.agg (ss.map fun s => .lit (.string s)))) : ∀ j s, ss[j]? = some s → W.cell? ⟨g, j, none⟩ = some (strV s) := by
 obtain ⟨g', t', cs, fuel, p, hg', ht', hvar, hd⟩ := h
 obtain rfl := Option.some.inj (hg.symm.trans hg')
 obtain rfl := Option.some.inj (hty.symm.trans ht')
 intro j s hj
 have hjl := (List.getElem?_eq_some_iff.1 hj).1
 obtain ⟨f', d, q, hds, hf⟩ := Lib.array_elem ht hd j (by omega)
 obtain ⟨b, hcs, hdq, _⟩ := DataW.trod_string he hf
 rw [List.getElem?_map, hj] at hds
 have hds := Option.some.inj hds
 cases hdq
 have hsb : s = b.data.toList := by
  simp only at hds
  injection hds with h1
  injection h1
 rw [hce] at hcs
 have h2 : cs[j]? = some (.string b) := by
  have := congrArg (·[0]?) hcs
  simpa [List.getElem?_take, List.getElem?_drop] using this
 rw [World.var?_cell hg hvar j, h2, hsb]
 rfl
theorem lh_of {W : World} (h : laidMetH Tryz.prog laid7 W) : Lh W := by
 have h' : laidMet Tryz.prog laid7 W := h
 have h1 := Lib.laidMet.reads h' (n := "sparse/market.fields") (d := Rows.laid_sparse_market_fields) (by unfold laid7; simp)
 have h2 := Lib.laidMet.reads h' (n := "sparse/market.symmetries") (d := Rows.laid_sparse_market_symmetries) (by unfold laid7; simp)
 exact ⟨strs_of_reads (g := 0) (by kernel_rfl) (by kernel_rfl) Tryz.underlying86 Tryz.underlying9 (by kernel_rfl) (ss := sFlds) rfl h1, strs_of_reads (g := 1) (by kernel_rfl) (by kernel_rfl) Tryz.underlying86 Tryz.underlying9 (by kernel_rfl) (ss := sSyms) rfl h2⟩
theorem laM_of {W : World} (h : laidMetH Tryz.prog laid7 W) : La W := ⟨laid_tab7 h, laid_pow7 h⟩
def constP : Nat → List UInt8 → List (Nat × Operand)
 | _, [] => []
 | i, c :: s => (i, .const (.int .u8 (c.toNat : Int))) :: constP (i + 1) s
theorem constP_parts (L : List Value) : ∀ (s : List UInt8) (i : Nat), Parts L i (constP i s) (s.map fun c => [.int .u8 (c.toNat : Int)])
 | [], i => .nil i
 | c :: s, i => .con rfl (constP_parts L s (i + 1))
theorem flat_bytes (s : List UInt8) : (s.map fun c => [Value.int .u8 (c.toNat : Int)]).flatten = bytesV s := by
 induction s with
 | nil => rfl
 | cons c s ih => rw [List.map_cons, List.flatten_cons, ih]; rfl
section
variable {P : Program} {Q : Exit → Act → World → Prop} {w w0 : World} {o : Oper} {K : Act → World → Prop} {T : List Nat} {l : List Ent} {L : List Value} {ds : List Deferred}
theorem c_sB (s : List UInt8) (H : Hp T w0 w l) {t : TypeId} {n : Nat} {ps : Array (Nat × Operand)} (ho : o.op = .buildSlice t n ps) (hn : s.length = n) (hp : ps = (constP 0 s).toArray) {e : TypeId} {z : List Value} {by' : Nat} [hsi : Si P t e z 1 by'] (h24 : n ≤ 16777216)
  (h : ∀ g w', w0.heap.size ≤ g ∧ w.heap.size ≤ g → Fr [] w w' → Hp T w0 w' (.blk g (bytesV s) e :: l) → K (Act.put (Act.mk L.toArray ds) o.dst (.slice (some ⟨g, 0, none⟩) s.length s.length)) w') : o.wp P (Act.mk L.toArray ds) w K Q := by
 subst hp
 refine c_sN H ho (constP_parts L s 0) (by rw [List.length_map]; exact hn) (fun c hc => ?_) (by omega) (by decide) (fun g w' h1 h2 h3 => ?_)
 ·obtain ⟨x, _, rfl⟩ := List.mem_map.1 hc
  rfl
 ·rw [flat_bytes] at h3
  have := h g w' h1 h2 h3
  rw [hn] at this
  exact this
end
theorem freeze_fr (w : World) (g n : Nat) : Fr [g] w (w.freeze ⟨g, n, none⟩ 1) := by
 unfold World.freeze
 rw [if_neg (by decide)]
 refine ⟨rfl, rfl, rfl, by simp, fun k hk hn => ?_⟩
 have : g ≠ k := fun e => hn (by simp [e])
 simp [Array.getElem?_modify, this]
theorem freeze_at {w : World} {g n : Nat} {C : Array Value} {e : TypeId} (h : w.heap[g]? = some (.cells C e (0, 0))) : (w.freeze ⟨g, n, none⟩ 1).heap[g]? = some (.cells C e (n, n + 1)) := by
 unfold World.freeze
 rw [if_neg (by decide)]
 simp [Array.getElem?_modify, h]
theorem run_cvM {P : Program} {w : World} {t e : TypeId} {C : Array Value} {g n c : Nat} (h : w.heap[g]? = some (.cells C e (0, 0))) (ht : P.underlying t = some (.slice e)) (he : P.underlying e = some (.int .u8)) :
  (convert t t (.slice (some ⟨g, 0, none⟩) n c)).run P w = .ok (.slice (some ⟨g, 0, none⟩) n c) (w.freeze ⟨g, C.size, none⟩ 1) := by
 have hsh : w.shape? g = some (e, C.size) := by unfold World.shape?; rw [h]
 simp [convert, run_underlying ht, run_underlying he, markStringish, hsh]
theorem c_cvM {Q : Exit → Act → World → Prop} {w w0 : World} {o : Oper} {K : Act → World → Prop} {l : List Ent} {a : Act} {g : Nat} {s : List UInt8} (k : Nat) (H : Hp [] w0 w (.blk g (bytesV s) 5 :: l)) {x : Operand} (ho : o.op = .convert 22 22 x) (hx : a.eval x = .slice (some ⟨g, 0, none⟩) s.length s.length)
  (h : ∀ w', Fr [g] w w' → Hp [] w0 w' (.obj k [g] (OwnM (.slice (some ⟨g, 0, none⟩) s.length s.length) s [g]) :: l) → K (a.put o.dst (.slice (some ⟨g, 0, none⟩) s.length s.length)) w') : o.wp Tryz.prog a w K Q := by
 have hg := H.at g
 have hnew : w0.heap.size ≤ g := (H.ok _ (.head _)).2.resolve_left (by simp)
 have hn := H.nodup
 simp only [List.flatMap_cons, Ent.own, List.singleton_append, List.nodup_cons] at hn
 have hF := freeze_fr w g (bytesV s).toArray.size
 refine wp_of_run (v := .slice (some ⟨g, 0, none⟩) s.length s.length) (w' := w.freeze ⟨g, (bytesV s).toArray.size, none⟩ 1) ?_ (h _ hF ?_)
 ·unfold execOp
  simp only [ho, hx, Sem.run_bind, run_cvM hg Tryz.underlying22 Tryz.underlying5]
  rfl
 ·have H1 := (H.sub (.cons _ (List.Sublist.refl _))).skip hF (fun x hx => by simp only [List.mem_singleton] at hx; subst hx; exact hnew) (fun x hx => by simp only [List.mem_singleton] at hx; subst hx; exact hn.1)
  refine H1.pushObj k ⟨g, s.length, (bytesV s).toArray, _, rfl, rfl, freeze_at hg, .inl (Nat.le_refl _), Nat.le_refl _, by simp [bytesV], (by show (bytesV s).take s.length = bytesV s; exact List.take_of_length_le (by simp [bytesV]))⟩ OwnM.firm (fun x hx => .inr (by simp only [List.mem_singleton] at hx; subst hx; exact hnew)) (fun x hx => by simp only [List.mem_singleton] at hx; subst hx; exact hn.1)
theorem x_cvM {ops : Array Oper} {Q : Exit → Act → World → Prop} {w w0 : World} {rest : List Oper} {o : Oper} {l : List Ent} {L L' : List Value} {ds : List Deferred} {g : Nat} {s : List UInt8} {x : Operand} (k : Nat) (h : ∀ w', Fr [g] w w' → Hp [] w0 w' (.obj k [g] (OwnM (.slice (some ⟨g, 0, none⟩) s.length s.length) s [g]) :: l) → wpList Tryz.prog ops Q rest ⟨L'.toArray, ds⟩ w')
  (ho : o.op = .convert 22 22 x := by rfl) (hx : (Act.mk L.toArray ds).eval x = .slice (some ⟨g, 0, none⟩) s.length s.length := by rfl)
  (hw : Region.wanted o (yielded ops L.toArray) = true := by rfl)
  (hs : putL L o.dst (.slice (some ⟨g, 0, none⟩) s.length s.length) = L' := by ((try simp only [nrm, putL_s, putL_n, ↓reduceIte, Nat.reduceAdd]); (try exact rfl))) (H : Hp [] w0 w (.blk g (bytesV s) 5 :: l)) : wpList Tryz.prog ops Q (o :: rest) ⟨L.toArray, ds⟩ w :=
 wl_rw hw fun K hK => c_cvM k H ho hx fun w' h1 h2 => hK _ _ (by rw [put_eq, hs]; exact h w' h1 h2)
set_option maxHeartbeats 32000000 in
theorem awakeM_any (w : World) (hT : La w) (hL : Lh w) : Calls Tryz.prog 6 #[] w fun e w' => e = .returned (.bool true) ∧ Fr [] w w' := by
 have HT := hid hT
 have HLh := hid hL
 clear hT hL
 have H := Hp.start [] w
 go_enter Tryz.func6, Tryz.ntmps6
 go_wp2_with (first | (revert H; refine x_g (he := fun H K hK => c_sB awM H rfl rfl rfl (by decide) (h := hK)) ?_; (first | (have hh := g5; clear hh; intro g6 w1 hg hf H) | (have hh := g4; clear hh; intro g5 w1 hg hf H) | (have hh := g3; clear hh; intro g4 w1 hg hf H) | (have hh := g2; clear hh; intro g3 w1 hg hf H) | (have hh := g1; clear hh; intro g2 w1 hg hf H) | (have hh := g0; clear hh; intro g1 w1 hg hf H) | intro g0 w1 hg hf H); clear hf) | (revert H; refine x_cvM 1 ?_; intro w1 hf H; clear hf))
 have hA := chkA_of chk_aw
 refine Calls.mono (parseM_any _ awM (by decide) (H.ob 1).rd (HT.out.fr H.fr) (HLh.out.fr H.fr (by simp) (by simp)) (fun h m n L e => by
  rw [hA] at e
  cases e
  rw [mirr_aw]
  decide)) ?_
 rintro e w1 ⟨hF, hpost⟩
 unfold PaPost at hpost
 rw [hA] at hpost
 obtain ⟨v1, v2, v3, B, rfl, hM, hB⟩ := hpost
 simp only [mirr_aw, entP_aw] at hM
 obtain ⟨S1, S2, S3, H1⟩ := H.mat 2 3 4 hF hM hB
 clear H hF hM hB hA
 have H := H1
 clear H1
 simp only [List.length_map, List.length_range, show awS.length = 3 from rfl] at H
 obtain ⟨q1, d1, rfl, _⟩ := (H.rowo 2).form
 obtain ⟨q2, d2, rfl, hd2, _⟩ := (H.rowo 3).form
 obtain ⟨q3, d3, rfl, hd3, _⟩ := (H.rowo 4).form
 go_wp2_with (first | (revert H; refine x_s (he := fun H K hK => c_st8 H rfl rfl rfl (h := hK)) ?_; intro w1 hf H; clear hf) | (revert H; refine x_g ?_; (first | (have hh := g5; clear hh; intro g6 w1 hg hf H) | (have hh := g4; clear hh; intro g5 w1 hg hf H) | (have hh := g3; clear hh; intro g4 w1 hg hf H) | (have hh := g2; clear hh; intro g3 w1 hg hf H) | (have hh := g1; clear hh; intro g2 w1 hg hf H) | (have hh := g0; clear hh; intro g1 w1 hg hf H) | intro g0 w1 hg hf H); clear hf))
 refine Calls.mono (parseM_any _ [] (by decide) (.inl ⟨rfl, rfl, none, 0, rfl⟩) (HT.out.fr H.fr) (HLh.out.fr H.fr (by simp) (by simp)) (fun h m n L e => by rw [mparse_nil] at e; cases e)) ?_
 rintro e w1 ⟨hF, hpost⟩
 have he : e = .returned (.tuple #[.agg fileZ.toArray, .int .i64 1, .int .i64 100]) := by
  unfold PaPost at hpost
  rw [mparse_nil] at hpost
  exact hpost
 subst he
 have H1 := H.step hF (by simp)
 clear H hF hpost
 have H := H1
 clear H1
 go_wp2_with (first | (revert H; refine x_s (he := fun H K hK => c_st8 H rfl rfl rfl (h := hK)) ?_; intro w1 hf H; clear hf) | refine x_q H ?_ | refine x_l H ?_ | (revert H; refine x_g ?_; (first | (have hh := g5; clear hh; intro g6 w1 hg hf H) | (have hh := g4; clear hh; intro g5 w1 hg hf H) | (have hh := g3; clear hh; intro g4 w1 hg hf H) | (have hh := g2; clear hh; intro g3 w1 hg hf H) | (have hh := g1; clear hh; intro g2 w1 hg hf H) | (have hh := g0; clear hh; intro g1 w1 hg hf H) | intro g0 w1 hg hf H); clear hf))
 have hm : MatIn 2 2 3 awS (awS.map (·.2.2)) q1 q2 q3 d2 d3 w1 := ⟨by decide, by decide, rfl, by decide, hd2, hd3, awS_sorted, awS_in, awS_cnt, CelR.of (H.rowo 2), CelR.of (H.rowo 3), CelR.of (H.rowo 4), rfl, awS_fin⟩
 refine x_c H (atM_any _ hm (i := 0) (j := 1) (q := 2) rfl rfl) ?_
 clear H hm
 rintro e w1 ⟨rfl, hF⟩ H
 clear hF
 go_wp2_with (refine x_q H ?_)
 go_ret
 exact ⟨rfl, H.fr⟩
end Go.Proofs.YtomggcdmhflboaaGreatDoor
