import Derived.Test.YtbiohhmpclnpgaaGreatDoorXNb4
import Derived.Test.YtbiohhmpclnpgaaGreatDoorXMd8
import Derived.Test.YtbiohhmpclnpgaaGreatDoorXNc4
import Derived.Test.YtbiohhmpclnpgaaGreatDoorXNc2
namespace Go.Proofs.YtbiohhmpclnpgaaGreatDoor
set_option linter.unusedSimpArgs false
set_option linter.unusedVariables false
theorem mirr_one (v : Nat) : mirr 0 [(0, 0, v)] = [(0, 0, v)] := by unfold mirr; simp
theorem entP_one (v : Nat) : entP [(0, 0, v)] 1 1 = [(0, 0, v)] := by unfold entP colE; rfl
theorem packM_one (v : Nat) : packM (entP (mirr 0 [(0, 0, v)]) 1 1) 1 = ([0, 1], [0], [v]) := by
 rw [mirr_one, entP_one]
 unfold packM pre
 rfl
theorem okM_one {v : Nat} (h : finF v = true) (h2 : v < 18446744073709551616) : okM 1 1 (mirr 0 [(0, 0, v)]) := by
 rw [mirr_one]
 refine ⟨List.pairwise_singleton _ _, fun x hx => ?_⟩
 rw [List.mem_singleton] at hx
 subst hx
 exact ⟨by show 0 < 1; decide, by show 0 < 1; decide, h, h2⟩
theorem value_fin {f : Lay} {s : List UInt8} {v : Nat} (h : valueP f s = some v) : finF v = true ∧ v < 18446744073709551616 := by
 unfold valueP at h
 split at h
 ·rename_i k
  cases h
  exact ⟨k.2.2, dpz_lt _ _ _⟩
 ·cases h
end Go.Proofs.YtbiohhmpclnpgaaGreatDoor
namespace Go.Proofs.YtbiohhmpclnpgaaGreatDoor
open Go.RowKit
set_option linter.unusedSimpArgs false
set_option linter.unusedVariables false
set_option maxHeartbeats 8000000
set_option maxRecDepth 100000
attribute [local irreducible] wpList Code.wp Plan.wp
def LnsAt (b : Nat) (Ls : List (List UInt8)) (S : List Nat) (w : World) : Prop := S = [b] ∧ b < w.heap.size ∧ ∀ (j : Nat) (x : List UInt8), Ls[j]? = some x → w.cell? ⟨b, j, none⟩ = some (strV x)
theorem LnsAt.firm {b : Nat} {Ls : List (List UInt8)} {S : List Nat} : Firm S (LnsAt b Ls S) := by
 refine ⟨fun w w' R k hn h => ?_, fun w h x hx => ?_, fun w h => ?_⟩
 ·obtain ⟨rfl, h1, h2⟩ := h
  exact ⟨rfl, Nat.lt_of_lt_of_le h1 k.size, fun j x hx => k.cell (h2 j x hx) (hn b (by simp))⟩
 ·obtain ⟨rfl, h1, h2⟩ := h
  simp only [List.mem_singleton] at hx; subst hx; exact h1
 ·obtain ⟨rfl, _⟩ := h; simp
theorem LnsAt.four {b : Nat} {l0 l1 l2 l3 : List UInt8} {r : List (List UInt8)} {S : List Nat} {w : World} (h : LnsAt b (l0 :: l1 :: l2 :: l3 :: r) S w) : ∀ j u, ([strV l0, strV l1, strV l2, strV l3] : List Value)[j]? = some u → w.cell? ⟨b, 0 + j, none⟩ = some u := by
 intro j u hj
 rw [Nat.zero_add]
 rcases j with _ | _ | _ | _ | j
 ·rw [← Option.some.inj hj]; exact h.2.2 0 l0 rfl
 ·rw [← Option.some.inj hj]; exact h.2.2 1 l1 rfl
 ·rw [← Option.some.inj hj]; exact h.2.2 2 l2 rfl
 ·rw [← Option.some.inj hj]; exact h.2.2 3 l3 rfl
 ·exact absurd hj (by simp)
theorem lines_cap (s : List UInt8) : (mlines s).length ≤ (nl [] s).length := by
 have h : mlines s = (trimLast (nl [] s)).map noCR := lns_nl s []
 rw [h, List.length_map]
 unfold trimLast
 split
 ·rw [List.length_dropLast]; omega
 ·exact Nat.le_refl _
theorem c_sslP {P : Program} {a : Act} {w : World} {o : Oper} {t : TypeId} {x y : Operand} (ho : o.op = .slice t x (some y) none none) {b p n c : Nat} (hx : a.eval x = .slice (some ⟨b, p, none⟩) n c) {k : IntKind} {i : Int} (hy : a.eval y = .int k i) {e : TypeId} {z : List Value} {s by' : Nat} [h : Si P t e z s by'] (j q m : Nat) (hi : Hid (i = (j : Int))) (hjn : j ≤ n) (hjc : j < c) (hm : n - j = m) (hq : p + j * s = q := by omega) :
  (execOp a.eval o).run P w = .ok (.value (.slice (some ⟨b, q, none⟩) m (c - j))) w := by
 have hi := hi.out
 subst hi
 have e1 := c_ssl (P := P) (w := w) ho hx hy (by omega) (by omega)
 rw [Int.toNat_natCast, if_neg (by omega), hq, hm] at e1
 exact e1
theorem ev_asm {w : World} {a : Act} {o : Oper} {x y z u : Operand} (ho : o.op = .build 34 #[(0, x), (1, y), (3, z), (4, u)]) {s r : List UInt8} {b : Bool} {k : Int} (hx : a.eval x = strV s) (hy : a.eval y = strV r) (hz : a.eval z = .bool b) (hu : a.eval u = .int .i64 k) : (execOp a.eval o).run Tryz.prog w = .ok (.value (.agg #[strV s, strV r, .int .i64 0, .int .i64 0, .slice none 0 0, .slice none 0 0, .slice none 0 0, .bool b, .int .i64 k])) w := by
 have hb : Tryz.prog.built 34 [(0, strV s), (1, strV r), (3, .bool b), (4, .int .i64 k)] = some #[strV s, strV r, .int .i64 0, .int .i64 0, .slice none 0 0, .slice none 0 0, .slice none 0 0, .bool b, .int .i64 k] := by kernel_rfl
 have e1 : (#[(0, x), (1, y), (3, z), (4, u)].map fun (i, x) => (i, a.eval x)).toList = [(0, strV s), (1, strV r), (3, .bool b), (4, .int .i64 k)] := by simp [hx, hy, hz, hu]
 unfold execOp
 simp only [ho, Sem.run_bind]
 rw [run_build w 34 _ _ (by rw [e1]; exact hb)]
 rfl
theorem Hp.lose {w0 w w' : World} {k : Nat} {S : List Nat} {Q : World → Prop} {l : List Ent} (H : Hp [] w0 w (.obj k S Q :: l)) (hF : Fr S w w') : Hp [] w0 w' l := by
 refine (H.sub (.cons _ (List.Sublist.refl _))).skip hF (fun x hx => ((H.ok _ (.head _)).2.2 x hx).resolve_left (by simp)) (fun x hx h => ?_)
 have hn := H.nodup
 rw [List.flatMap_cons] at hn
 exact (List.nodup_append.1 hn).2.2 x hx x h rfl
theorem Hp.matC {w0 w w' : World} {k : Nat} {S : List Nat} {Q : World → Prop} {l : List Ent} (H : Hp [] w0 w (.obj k S Q :: l)) (k1 k2 k3 : Nat) {st ix vl : List Nat} {v1 v2 v3 : Value} {B : List Nat} (hF : Fr S w w') (h : Mat3 st ix vl v1 v2 v3 B w') (hB : ∀ x ∈ B, w.heap.size ≤ x) :
  ∃ S1 S2 S3, B = S1 ++ (S2 ++ S3) ∧ Hp [] w0 w' (.obj k1 S1 (RowAt 3 1 v1 st.length (st.map iV) S1) :: .obj k2 S2 (RowAt 3 1 v2 ix.length (ix.map iV) S2) :: .obj k3 S3 (RowAt 25 1 v3 vl.length (vl.map uV) S3) :: l) := by
 obtain ⟨S1, S2, S3, rfl, hn, h1, h2, h3⟩ := h
 simp only [List.nodup_append, List.mem_append] at hn
 have k0 := H.lose hF
 have hlt := H.ownLt
 have nw : ∀ x, w.heap.size ≤ x → x ∉ l.flatMap Ent.own := fun x hx hm => by
  have := hlt x (by rw [List.flatMap_cons]; exact List.mem_append_right _ hm)
  omega
 have nb : ∀ x, w.heap.size ≤ x → x ∈ ([] : List Nat) ∨ w0.heap.size ≤ x := fun x hx => .inr (Nat.le_trans H.fr.size hx)
 have q3 := k0.pushObj k3 h3 RowAt.firm (fun x hx => nb x (hB x (by simp [hx]))) (fun x hx => nw x (hB x (by simp [hx])))
 have q2 := q3.pushObj k2 h2 RowAt.firm (fun x hx => nb x (hB x (by simp [hx]))) (fun x hx => by
  rw [List.flatMap_cons, List.mem_append, not_or]
  exact ⟨fun h => hn.2.1.2.2 x hx x h rfl, nw x (hB x (by simp [hx]))⟩)
 have q1 := q2.pushObj k1 h1 RowAt.firm (fun x hx => nb x (hB x (by simp [hx]))) (fun x hx => by
  rw [List.flatMap_cons, List.flatMap_cons, List.mem_append, List.mem_append, not_or, not_or]
  exact ⟨fun h => hn.2.2 x hx x (.inl h) rfl, fun h => hn.2.2 x hx x (.inr h) rfl, nw x (hB x (by simp [hx]))⟩)
 exact ⟨S1, S2, S3, rfl, q1⟩
section
variable {P : Program} {Q : Exit → Act → World → Prop} {a : Act} {w w0 : World} {o : Oper} {K : Act → World → Prop} {T : List Nat} {l : List Ent}
theorem c_st5a (H : Hp T w0 w l) {t : TypeId} {x y : Operand} (ho : o.op = .store t x y) {b p : Nat} (hx : a.eval x = .pointer (some ⟨b, p, none⟩)) {i j : Int} {q1 q2 q3 : Option Addr} {n1 n2 n3 m1 m2 m3 : Nat} (hy : a.eval y = .agg #[.int .i64 i, .int .i64 j, .slice q1 n1 m1, .slice q2 n2 m2, .slice q3 n3 m3]) [hs : Ro P t 5] {cs : List Value} {t' : TypeId} {f : Nat → List Value → List Ent} [hm : In b cs t' l f]
  (hp : p + 5 ≤ cs.length := by simp only [List.length_cons, List.length_nil]; omega)
  (h : ∀ w', Fr [b] w w' → Hp T w0 w' (f b (over cs p [.int .i64 i, .int .i64 j, .slice q1 n1 m1, .slice q2 n2 m2, .slice q3 n3 m3])) → K (a.put o.dst undef) w') : o.wp P a w K Q :=
 c_stn H ho hx (vs := [.int .i64 i, .int .i64 j, .slice q1 n1 m1, .slice q2 n2 m2, .slice q3 n3 m3]) hy rfl (by
  intro v hv
  simp only [List.mem_cons, List.not_mem_nil, or_false] at hv
  rcases hv with rfl | rfl | rfl | rfl | rfl <;> rfl) hp h
end
theorem mirror1_any (w : World) {v1 : Value} {S : List Nat} (v : Nat) (hv : RowAt 131 3 v1 1 (eC (0, 0, v)) S w) (hf : finF v = true) (h64 : v < 18446744073709551616) (hT : ∀ w', Fr S w w' → La w') :
  Calls Tryz.prog 32 #[.int .i64 1, .int .i64 1, v1, .int .i64 0] w (MatT S 1 1 [0, 1] [0] [v] w) := by
 have h := mirrored_any w 1 1 0 (by decide) (by decide) (by decide) (v := v1) (S := S) [(0, 0, v)] (by rw [List.flatMap_cons, List.flatMap_nil, List.append_nil]; exact hv) (by rw [mirr_one]; exact Nat.le_of_ble_eq_true rfl) (okM_one hf h64) (fun x hx => by rw [List.mem_singleton] at hx; subst hx; exact ⟨hf, h64⟩) hT
 rw [packM_one] at h
 exact h
theorem trimRi_any (w : World) (s : List UInt8) (hs : s.length ≤ 4000000) {r : List UInt8} (hr : Hid (Lib.trimRightB s 32 = r)) : Calls Tryz.prog 29 #[strV s, .string (ByteArray.mk #[32])] w fun e w' => e = .returned (strV r) ∧ Fr [] w w' := by
 rw [← hr.out]; exact trimR_any w s hs
theorem parse_nil (w : World) : Calls Tryz.prog 8 #[.slice none 0 0] w fun e w' => e = .returned (.tuple #[.agg zl_34.toArray, .int .i64 1, .int .i64 103]) ∧ Fr [] w w' := by
 obtain ⟨s, hs⟩ : ∃ s : List UInt8, s = [] := ⟨_, rfl⟩
 have hsl : s.length = 0 := by rw [hs]; rfl
 have HL := hid (show mlines s = [] by rw [hs]; rfl)
 have HV := hid (show Rd w (.slice none 0 0) 0 [] from .inl ⟨rfl, rfl, none, 0, rfl⟩)
 have hv : ∀ w1, Fr [] w w1 → Rd w1 (.slice none 0 0) s.length (bytesV s) := fun w1 _ => by rw [hs]; exact .inl ⟨rfl, rfl, none, 0, rfl⟩
 have HVV := hid hv
 clear hs hv
 have H := Hp.start [] w
 go_enter Tryz.func8, Tryz.ntmps8
 go_wp2_with (first | refine x_q H ?_ | refine x_cm (fun h => ?_) (fun h => ?_) | refine x_l H ?_ | (revert H; refine x_g ?_; (first | (have hh := g3; clear hh; intro g4 w1 hg hf H) | (have hh := g2; clear hh; intro g3 w1 hg hf H) | (have hh := g1; clear hh; intro g2 w1 hg hf H) | (have hh := g0; clear hh; intro g1 w1 hg hf H) | intro g0 w1 hg hf H); (first | replace hf := hf.kp | clear hf)) | (revert H; refine x_s ?_; intro w1 hf H; (first | replace hf := hf.kp | clear hf)) | (revert H; refine x_s (he := fun H K hK => c_stA H rfl rfl rfl (h := hK)) ?_; intro w1 hf H; clear hf))
 refine Calls.mono (lines_any _ s (by omega) (HVV.out _ H.fr)) ?_
 rintro e w1 ⟨gL, rfl, hF, -, -, -⟩
 rw [HL.out]
 have H1 := H.step hF (by simp)
 clear H hF
 have H := H1
 clear H1
 go_wp2_with (first | refine x_q H ?_ | refine x_cm (fun h => ?_) (fun h => ?_) | refine x_l H ?_ | (revert H; refine x_g ?_; (first | (have hh := g3; clear hh; intro g4 w1 hg hf H) | (have hh := g2; clear hh; intro g3 w1 hg hf H) | (have hh := g1; clear hh; intro g2 w1 hg hf H) | (have hh := g0; clear hh; intro g1 w1 hg hf H) | intro g0 w1 hg hf H); (first | replace hf := hf.kp | clear hf)) | (revert H; refine x_s ?_; intro w1 hf H; (first | replace hf := hf.kp | clear hf)) | (revert H; refine x_s (he := fun H K hK => c_stA H rfl rfl rfl (h := hK)) ?_; intro w1 hf H; clear hf))
 refine c_postCTT H rfl rfl rfl rfl rfl ?_
 exact ⟨rfl, H.fr⟩
theorem parse_bad (w : World) (s : List UInt8) (hs : s.length ≤ 100000) {p : Option Addr} {c : Nat} (hv : Rd w (.slice p s.length c) s.length (bytesV s)) {l0 l1 l2 l3 l4 l5 x : List UInt8} (hL : mlines s = [l0, l1, l2, l3, l4, l5, x]) (hH : HeadOK l1 l2 l3 none) :
  Calls Tryz.prog 8 #[.slice p s.length c] w fun e w' => e = .returned (.tuple #[.agg zl_34.toArray, .int .i64 4, .int .i64 111]) ∧ Fr [] w w' := by
 have HV := hid hv
 have HL := hid hL
 have HH := hid hH
 clear hv hL hH
 have H := Hp.start [] w
 go_enter Tryz.func8, Tryz.ntmps8
 go_wp2_with (first | refine x_q H ?_ | refine x_cm (fun h => ?_) (fun h => ?_) | refine x_l H ?_ | (revert H; refine x_g ?_; (first | (have hh := g3; clear hh; intro g4 w1 hg hf H) | (have hh := g2; clear hh; intro g3 w1 hg hf H) | (have hh := g1; clear hh; intro g2 w1 hg hf H) | (have hh := g0; clear hh; intro g1 w1 hg hf H) | intro g0 w1 hg hf H); (first | replace hf := hf.kp | clear hf)) | (revert H; refine x_s ?_; intro w1 hf H; (first | replace hf := hf.kp | clear hf)) | (revert H; refine x_s (he := fun H K hK => c_stA H rfl rfl rfl (h := hK)) ?_; intro w1 hf H; clear hf))
 refine Calls.mono (lines_any _ s (by omega) (HV.out.fr H.fr (by simp))) ?_
 rintro e w1 ⟨gL, rfl, hF, hgL, hgL2, hcells⟩
 rw [HL.out] at hcells ⊢
 have H1 := (H.step hF (by simp)).pushObj 7 (Q := LnsAt gL [l0, l1, l2, l3, l4, l5, x] [gL]) (S := [gL]) ⟨rfl, hgL2, hcells⟩ LnsAt.firm (fun x hx => by
  rw [List.mem_singleton] at hx; subst hx; exact .inr (Nat.le_trans H.fr.size hgL)) (fun x hx => by
  rw [List.mem_singleton] at hx; subst hx; exact H.notOwn hgL)
 clear H hF hgL hgL2 hcells
 have H := H1
 clear H1
 go_wp2_with (first | refine x_q H ?_ | refine x_cm (fun h => ?_) (fun h => ?_) | refine x_l H ?_ | (revert H; refine x_g ?_; (first | (have hh := g3; clear hh; intro g4 w1 hg hf H) | (have hh := g2; clear hh; intro g3 w1 hg hf H) | (have hh := g1; clear hh; intro g2 w1 hg hf H) | (have hh := g0; clear hh; intro g1 w1 hg hf H) | intro g0 w1 hg hf H); (first | replace hf := hf.kp | clear hf)) | (revert H; refine x_s ?_; intro w1 hf H; (first | replace hf := hf.kp | clear hf)) | (revert H; refine x_s (he := fun H K hK => c_stA H rfl rfl rfl (h := hK)) ?_; intro w1 hf H; clear hf))
 refine x_c H (readH_any _ (by decide) HH.out (H.ob 7).four) ?_ (fun _ _ h => h.1)
 clear H
 rintro e w1 ⟨hF, he⟩ H
 have he : e = .returned (.tuple #[.agg zl_66.toArray, .int .i64 4, .int .i64 111]) := he
 subst he
 clear hF
 go_wp2_with (first | refine x_q H ?_ | refine x_cm (fun h => ?_) (fun h => ?_) | refine x_l H ?_ | (revert H; refine x_g ?_; (first | (have hh := g3; clear hh; intro g4 w1 hg hf H) | (have hh := g2; clear hh; intro g3 w1 hg hf H) | (have hh := g1; clear hh; intro g2 w1 hg hf H) | (have hh := g0; clear hh; intro g1 w1 hg hf H) | intro g0 w1 hg hf H); (first | replace hf := hf.kp | clear hf)) | (revert H; refine x_s ?_; intro w1 hf H; (first | replace hf := hf.kp | clear hf)) | (revert H; refine x_s (he := fun H K hK => c_stA H rfl rfl rfl (h := hK)) ?_; intro w1 hf H; clear hf))
 refine c_postCTT H rfl rfl rfl rfl rfl ?_
 exact ⟨rfl, H.fr⟩
end Go.Proofs.YtbiohhmpclnpgaaGreatDoor
