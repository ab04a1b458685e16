/-
  The functions of package disk: what each call does, over the known part of the memory.
-/
import Derived.Test.YtgnpgikbdomdpaaTy
namespace Go.Proofs.Ytgnpgikbdomdpaa
open Go.RowKit
set_option linter.unusedSimpArgs false
set_option linter.unusedVariables false

set_option maxHeartbeats 400000 in
theorem mod_any (a b : Int) (w : World) (h : 0 < b) (hb : b < 1000) :
    Calls Try.prog 15 #[.int .i64 a, .int .i64 b] w fun e w' => e = .returned (.int .i64 (a % 18446744073709551616 % b)) ∧ w' = w := by
  have h1 := Int.emod_nonneg (a % 18446744073709551616) (show b ≠ 0 by omega)
  have h2 := Int.emod_lt_of_pos (a % 18446744073709551616) h
  go_enter Try.func15, Try.ntmps15
  go_wp2_with (first | ((first | (refine is_load rfl ?_; refine wl_ev rfl (by first | exact c_ld H rfl rfl | exact c_ld0 H rfl rfl | exact c_ldz H rfl rfl | exact c_ldr H rfl rfl | exact c_ln H rfl rfl | exact c_lnp H rfl rfl | exact c_lnz H rfl rfl | exact c_lnr H rfl rfl) ?_) | (refine is_cmp rfl rfl ?_; first | (refine wl_ev rfl (by first | exact ev_cmpT rfl rfl rfl rfl | exact ev_cmpF rfl rfl rfl rfl | exact c_peq rfl rfl | exact c_pne rfl rfl | exact ev_strEq rfl rfl rfl | exact ev_strNe rfl rfl rfl) ?_) | (refine wl_cmp rfl rfl rfl rfl rfl (fun h => ?_) (fun h => ?_) <;> (simp only [cmpP] at h))) | (refine is_bin (op := .quo) rfl ?_; refine wl_ev rfl (ev_quo rfl rfl rfl) ?_) | (refine is_bin (op := .rem) rfl ?_; refine wl_ev rfl (ev_rem rfl rfl rfl) ?_) | (refine is_slice rfl ?_; refine wl_ev rfl (by first | exact c_ss rfl rfl | exact c_ssh rfl rfl rfl | exact c_ssl rfl rfl rfl | exact c_sslh rfl rfl rfl rfl | exact c_sa rfl rfl | exact c_sah rfl rfl rfl) ?_) | (refine is_build rfl ?_; refine wl_ev rfl (by first | exact c_sta rfl | exact c_stp rfl) ?_) | (refine is_indexAddr rfl ?_; refine wl_ev rfl (c_ix rfl rfl rfl) ?_)) <;> (simp only [nrm, ↓reduceIte, Nat.reduceAdd])) | (refine is_conv rfl ?_; first | fail | (refine wl_ev rfl (by first | exact c_cv rfl rfl | exact c_cv64 rfl rfl | exact c_cv32 rfl rfl | exact c_cv8 rfl rfl) ?_; (simp only [nrm, ↓reduceIte, Nat.reduceAdd]))) | ((first | (refine is_make rfl ?_; refine wl_rw rfl (fun K hK => c_mk H rfl rfl rfl (h := (fun g w1 hg hf H1 => hK _ _ ?_)))) | (refine is_buildSlice rfl ?_; first | (refine wl_rw rfl (fun K hK => c_s1t H rfl rfl rfl (h := (fun g w1 hg hf H1 => hK _ _ ?_)))) | (refine wl_rw rfl (fun K hK => c_s1c H rfl rfl (h := (fun g w1 hg hf H1 => hK _ _ ?_))))) | (refine is_alloc rfl ?_; refine wl_rw rfl (fun K hK => c_al H rfl (fun g w1 hg hf H1 => hK _ _ ?_))) | (refine is_box rfl ?_; first | (refine wl_rw rfl (fun K hK => la_boxN H rfl rfl (fun g w1 hg hf H1 => hK _ _ ?_))) | (refine wl_rw rfl (fun K hK => la_box1 H rfl rfl rfl (fun g w1 hg hf H1 => hK _ _ ?_)))) | (refine is_store rfl ?_; first | (refine wl_rw rfl (fun K hK => c_st H rfl rfl rfl (h := (fun w1 hf H1 => hK _ _ ?_)))) | (refine wl_rw rfl (fun K hK => c_stc H rfl rfl (h := (fun w1 hf H1 => hK _ _ ?_)))) | (refine wl_rw rfl (fun K hK => c_stn H rfl rfl rfl (h := (fun w1 hf H1 => hK _ _ ?_)))))); (clear hK K); (clear H; have H := H1; clear H1; (try dsimp only at H); clear hf); (simp only [nrm, ↓reduceIte, Nat.reduceAdd])))
  (refine bodyPost_ret (results_tmp rfl _ _ _) rfl ?_)
  exact ⟨rfl, rfl⟩

def blkC (s : List UInt8) : List Value := bytesV s ++ (List.replicate (64 - s.length) (.int .u8 0) ++ [.int .i64 s.length])
theorem bytesV_len (s : List UInt8) : (bytesV s).length = s.length := by simp [bytesV]
theorem bytesV_one (s : List UInt8) : ∀ u ∈ bytesV s, u.oneCell' = true := by
  intro u hu; simp [bytesV] at hu; obtain ⟨c, _, rfl⟩ := hu; rfl
theorem blkC_len (s : List UInt8) (h : s.length ≤ 64) : (blkC s).length = 65 := by simp [blkC, bytesV]; omega
theorem blkC_one (s : List UInt8) : ∀ u ∈ blkC s, u.oneCell' = true := by
  intro u hu; simp only [blkC, List.mem_append, List.mem_replicate, List.mem_singleton] at hu
  rcases hu with h | ⟨_, rfl⟩ | rfl
  · exact bytesV_one s u h
  · rfl
  · rfl
theorem over_zB (s : List UInt8) (h : s.length ≤ 64) : (over zl_85 0 (bytesV s)).set 64 (.int .i64 s.length) = blkC s := by
  unfold over zl_85 zl_83 blkC
  rw [bytesV_len]
  apply List.ext_getElem?
  intro j
  simp only [List.getElem?_set, List.getElem?_append, List.length_append, List.take_zero, List.nil_append, bytesV_len, List.length_drop, List.length_replicate, List.length_cons, List.length_nil, List.getElem?_drop, List.getElem?_replicate]
  by_cases h1 : j < s.length
  · rw [if_neg (by omega), if_pos h1, if_pos h1]
  · rw [if_neg h1, if_neg h1]
    by_cases h2 : j = 64
    · subst h2; simp; omega
    · rw [if_neg (by omega)]
      by_cases h3 : j < 64
      · rw [if_pos (by omega), if_pos (by omega), if_pos (by omega), if_pos (by omega)]
      · rw [if_neg (by omega), if_neg (by omega)]
        rw [List.getElem?_eq_none (by simp; omega), List.getElem?_eq_none (by simp; omega)]

set_option maxHeartbeats 400000 in
set_option maxRecDepth 100000 in
theorem newBlock_any (p : Option Addr) (c : Nat) (s : List UInt8) (w : World) (hs : s.length ≤ 64) (hr : Rd w (.slice p s.length c) s.length (bytesV s)) :
    Calls Try.prog 43 #[.slice p s.length c] w fun e w' => e = .returned (.agg (blkC s).toArray) ∧ Fr [] w w' := by
  have H := Hp.start [] w
  have Hr := hid hr; clear hr
  have hz : zl_85.length = 65 := rfl
  have hz1 : (over zl_85 0 (bytesV s)).length = 65 := by rw [over_length _ _ _ (by rw [bytesV_len]; simp [hz]; omega)]; rfl
  have hz2 : ((over zl_85 0 (bytesV s)).set 64 (.int .i64 s.length)).length = 65 := by rw [List.length_set]; exact hz1
  have h1 := blkC_one s
  rw [← over_zB s hs] at h1
  go_enter Try.func43, Try.ntmps43
  go_wp2_with (first | ((first | (refine is_load rfl ?_; refine wl_ev rfl (by first | exact c_ld H rfl rfl | exact c_ld0 H rfl rfl | exact c_ldz H rfl rfl | exact c_ldr H rfl rfl | exact c_ln H rfl rfl | exact c_lnp H rfl rfl | exact c_lnz H rfl rfl | exact c_lnr H rfl rfl) ?_) | (refine is_cmp rfl rfl ?_; first | (refine wl_ev rfl (by first | exact ev_cmpT rfl rfl rfl rfl | exact ev_cmpF rfl rfl rfl rfl | exact c_peq rfl rfl | exact c_pne rfl rfl | exact ev_strEq rfl rfl rfl | exact ev_strNe rfl rfl rfl) ?_) | (refine wl_cmp rfl rfl rfl rfl rfl (fun h => ?_) (fun h => ?_) <;> (simp only [cmpP] at h))) | (refine is_bin (op := .quo) rfl ?_; refine wl_ev rfl (ev_quo rfl rfl rfl) ?_) | (refine is_bin (op := .rem) rfl ?_; refine wl_ev rfl (ev_rem rfl rfl rfl) ?_) | (refine is_slice rfl ?_; refine wl_ev rfl (by first | exact c_ss rfl rfl | exact c_ssh rfl rfl rfl | exact c_ssl rfl rfl rfl | exact c_sslh rfl rfl rfl rfl | exact c_sa rfl rfl | exact c_sah rfl rfl rfl) ?_) | (refine is_build rfl ?_; refine wl_ev rfl (by first | exact c_sta rfl | exact c_stp rfl) ?_) | (refine is_indexAddr rfl ?_; refine wl_ev rfl (c_ix rfl rfl rfl) ?_)) <;> (simp only [nrm, ↓reduceIte, Nat.reduceAdd])) | (refine is_conv rfl ?_; first | fail | (refine wl_ev rfl (by first | exact c_cv rfl rfl | exact c_cv64 rfl rfl | exact c_cv32 rfl rfl | exact c_cv8 rfl rfl) ?_; (simp only [nrm, ↓reduceIte, Nat.reduceAdd]))) | ((first | (refine is_make rfl ?_; refine wl_rw rfl (fun K hK => c_mk H rfl rfl rfl (h := (fun g w1 hg hf H1 => hK _ _ ?_)))) | (refine is_buildSlice rfl ?_; first | (refine wl_rw rfl (fun K hK => c_s1t H rfl rfl rfl (h := (fun g w1 hg hf H1 => hK _ _ ?_)))) | (refine wl_rw rfl (fun K hK => c_s1c H rfl rfl (h := (fun g w1 hg hf H1 => hK _ _ ?_))))) | (refine is_alloc rfl ?_; refine wl_rw rfl (fun K hK => c_al H rfl (fun g w1 hg hf H1 => hK _ _ ?_))) | (refine is_box rfl ?_; first | (refine wl_rw rfl (fun K hK => la_boxN H rfl rfl (fun g w1 hg hf H1 => hK _ _ ?_))) | (refine wl_rw rfl (fun K hK => la_box1 H rfl rfl rfl (fun g w1 hg hf H1 => hK _ _ ?_)))) | (refine is_store rfl ?_; first | (refine wl_rw rfl (fun K hK => c_st H rfl rfl rfl (h := (fun w1 hf H1 => hK _ _ ?_)))) | (refine wl_rw rfl (fun K hK => c_stc H rfl rfl (h := (fun w1 hf H1 => hK _ _ ?_)))) | (refine wl_rw rfl (fun K hK => c_stn H rfl rfl rfl (h := (fun w1 hf H1 => hK _ _ ?_)))))); (clear hK K); (clear H; have H := H1; clear H1; (try dsimp only at H); clear hf); (simp only [nrm, ↓reduceIte, Nat.reduceAdd])) | (refine is_blt (b := .copy) rfl ?_; go_loud (refine wl_rw rfl (fun K hK => c_cp H rfl rfl rfl (show s.length = min s.length 64 by omega) (Hr.out.fr H.fr (by simp)) (by simp [bytesV_len]) (bytesV_one s) (by simp [bytesV_len, zl_85, zl_83]; omega) (fun w1 hf H1 => hK _ _ ?_))); (clear hK K); (clear H; have H := H1; clear H1; (try dsimp only at H); clear hf); (simp only [nrm, ↓reduceIte, Nat.reduceAdd])))
  rw [over_zB s hs] at H hz2
  have hz3 : over zl_85 0 (blkC s) = blkC s := over_self _ _ (by rw [hz2, hz])
  rw [hz3] at H
  exact c_post H rfl rfl hz2 ⟨rfl, H.fr⟩

/-! ### Rows of equal pieces -/
theorem drop_flat {α β : Type} (g : α → List β) (n : Nat) : ∀ (l : List α) (k : Nat), (∀ x ∈ l, (g x).length = n) → (l.flatMap g).drop (k * n) = (l.drop k).flatMap g
  | [], k, _ => by simp
  | x :: l, 0, _ => by simp
  | x :: l, k + 1, h => by
    have hx := h x List.mem_cons_self
    rw [List.flatMap_cons, List.drop_succ_cons, ← drop_flat g n l k (fun y hy => h y (List.mem_cons_of_mem _ hy)), List.drop_append, hx]
    rw [List.drop_eq_nil_of_le (by rw [hx, Nat.add_mul]; omega), List.nil_append]
    congr 1; rw [Nat.add_mul]; omega
theorem take_flat {α β : Type} (g : α → List β) (n : Nat) : ∀ (l : List α) (k : Nat), (∀ x ∈ l, (g x).length = n) → (l.flatMap g).take (k * n) = (l.take k).flatMap g
  | [], k, _ => by simp
  | x :: l, 0, _ => by simp
  | x :: l, k + 1, h => by
    have hx := h x List.mem_cons_self
    rw [List.flatMap_cons, List.take_succ_cons, List.flatMap_cons, ← take_flat g n l k (fun y hy => h y (List.mem_cons_of_mem _ hy)), List.take_append, hx]
    rw [List.take_of_length_le (by rw [hx, Nat.add_mul]; omega)]
    congr 2; rw [Nat.add_mul]; omega
theorem length_flat {α β : Type} (g : α → List β) (n : Nat) : ∀ (l : List α), (∀ x ∈ l, (g x).length = n) → (l.flatMap g).length = l.length * n
  | [], _ => by simp
  | x :: l, h => by
    rw [List.flatMap_cons, List.length_append, h x List.mem_cons_self, length_flat g n l (fun y hy => h y (List.mem_cons_of_mem _ hy)), List.length_cons, Nat.add_mul]; omega
theorem piece_flat {α β : Type} (g : α → List β) (n : Nat) (l : List α) (k : Nat) (x : α) (h : ∀ x ∈ l, (g x).length = n) (hk : l[k]? = some x) : g x <+: (l.flatMap g).drop (k * n) := by
  rw [drop_flat g n l k h]
  obtain ⟨hlt, rfl⟩ := List.getElem?_eq_some_iff.1 hk
  rw [List.drop_eq_getElem_cons hlt, List.flatMap_cons]
  exact List.prefix_append _ _
theorem over_flat {α : Type} (g : α → List Value) (n : Nat) (l : List α) (k : Nat) (y : α) (h : ∀ x ∈ l, (g x).length = n) (hy : (g y).length = n) (hk : k < l.length) : over (l.flatMap g) (k * n) (g y) = (l.set k y).flatMap g := by
  unfold over
  rw [take_flat g n l k h, hy, show k * n + n = (k + 1) * n by rw [Nat.add_mul]; omega, drop_flat g n l (k + 1) h, List.set_eq_take_append_cons_drop, if_pos hk]
  simp [List.append_assoc]

/-! ### The disk in memory -/
def wrC (x : Nat × List UInt8) : List Value := .int .i64 x.1 :: blkC x.2
theorem wrC_len (x : Nat × List UInt8) (h : x.2.length ≤ 64) : (wrC x).length = 66 := by simp [wrC, blkC_len x.2 h]
theorem wrC_one (x : Nat × List UInt8) : ∀ u ∈ wrC x, u.oneCell' = true := by
  intro u hu; simp only [wrC, List.mem_cons] at hu
  rcases hu with rfl | h
  · rfl
  · exact blkC_one _ u h
/-- The pending writes: a nil slice, or a slice that owns its block from its head. -/
def PRep (w : World) (pv : Value) (ps : List Nat) (pend : List (Nat × List UInt8)) : Prop :=
  (pend = [] ∧ pv = .slice none 0 0 ∧ ps = []) ∨ pend ≠ [] ∧ ∃ p cap pad, pv = .slice (some ⟨p, 0, none⟩) pend.length cap ∧ ps = [p] ∧ w.heap[p]? = some (.cells (pend.flatMap wrC ++ pad).toArray 89 (0, 0)) ∧ (pend.flatMap wrC ++ pad).length = cap * 66 ∧ cap ≤ maxLen
structure DOk (cur dur : List (List UInt8)) (pend : List (Nat × List UInt8)) : Prop where
  len : dur.length = cur.length
  max : cur.length ≤ 65536
  cur64 : ∀ s ∈ cur, s.length ≤ 64
  dur64 : ∀ s ∈ dur, s.length ≤ 64
  pend64 : ∀ x ∈ pend, x.1 < cur.length ∧ x.2.length ≤ 64
/-- The disk behind the pointer to block b: its current and durable contents, its pending writes; S: the blocks that it consists of. -/
def DRep (w : World) (b : Nat) (cur dur : List (List UInt8)) (pend : List (Nat × List UInt8)) (S : List Nat) : Prop :=
  DOk cur dur pend ∧ ∃ c d pv ps, S = b :: c :: d :: ps ∧ S.Nodup ∧
    w.heap[b]? = some (.cells #[.slice (some ⟨c, 0, none⟩) cur.length cur.length, .slice (some ⟨d, 0, none⟩) cur.length cur.length, pv] 81 (0, 0)) ∧
    w.heap[c]? = some (.cells (cur.flatMap blkC).toArray 85 (0, 0)) ∧ w.heap[d]? = some (.cells (dur.flatMap blkC).toArray 85 (0, 0)) ∧ PRep w pv ps pend
theorem DRep.lt {w : World} {b : Nat} {cur dur : List (List UInt8)} {pend : List (Nat × List UInt8)} {S : List Nat} (h : DRep w b cur dur pend S) : ∀ x ∈ S, x < w.heap.size := by
  obtain ⟨_, c, d, pv, ps, rfl, _, h1, h2, h3, h4⟩ := h
  intro x hx
  simp only [List.mem_cons] at hx
  rcases hx with rfl | rfl | rfl | hx
  · exact lt_of_get h1
  · exact lt_of_get h2
  · exact lt_of_get h3
  · rcases h4 with ⟨_, _, rfl⟩ | ⟨_, p, cap, pad, _, rfl, h5, _⟩
    · simp at hx
    · simp at hx; subst hx; exact lt_of_get h5
theorem DRep.fr {T : List Nat} {w w' : World} {b : Nat} {cur dur : List (List UInt8)} {pend : List (Nat × List UInt8)} {S : List Nat} (h : DRep w b cur dur pend S) (k : Fr T w w') (hn : ∀ x ∈ S, x ∉ T) : DRep w' b cur dur pend S := by
  obtain ⟨h0, c, d, pv, ps, rfl, hd, h1, h2, h3, h4⟩ := h
  refine ⟨h0, c, d, pv, ps, rfl, hd, k.get h1 (hn _ (by simp)), k.get h2 (hn _ (by simp)), k.get h3 (hn _ (by simp)), ?_⟩
  rcases h4 with h5 | ⟨h8, p, cap, pad, h5, rfl, h6, h7⟩
  · exact .inl h5
  · exact .inr ⟨h8, p, cap, pad, h5, rfl, k.get h6 (hn _ (by simp)), h7⟩

theorem DRep.nodup {w : World} {b : Nat} {cur dur : List (List UInt8)} {pend : List (Nat × List UInt8)} {S : List Nat} (h : DRep w b cur dur pend S) : S.Nodup := by
  obtain ⟨_, c, d, pv, ps, rfl, hd, _⟩ := h
  exact hd
instance {b : Nat} {cur dur : List (List UInt8)} {pend : List (Nat × List UInt8)} {S : List Nat} : Fm S (fun w => DRep w b cur dur pend S) := ⟨⟨fun _ _ _ k hn D => D.fr k hn, fun _ D => D.lt, fun _ D => D.nodup⟩⟩

set_option maxHeartbeats 400000 in
set_option maxRecDepth 100000 in
theorem diskNew_any (n : Nat) (w : World) (h1 : n ≤ 65536) :
    Calls Try.prog 14 #[.int .i64 n] w fun e w' => ∃ b S, e = .returned (.tuple #[.pointer (some ⟨b, 0, none⟩), .int .i64 0]) ∧ Fr [] w w' ∧ DRep w' b (List.replicate n []) (List.replicate n []) [] S ∧ ∀ x ∈ S, w.heap.size ≤ x := by
  have H := Hp.start [] w
  have hz : blkC [] = zl_85 := rfl
  have hfl : (List.replicate n zl_85).flatten = (List.replicate n ([] : List UInt8)).flatMap blkC := by rw [List.flatMap_def, List.map_replicate, hz]
  have Hfl := hid hfl; clear hfl hz
  have hok : DOk (List.replicate n []) (List.replicate n []) [] := ⟨by simp, by simpa using h1, by simp, by simp, by simp⟩
  have Hok := hid hok; clear hok
  go_enter Try.func14, Try.ntmps14
  go_wp2_with (first | ((first | (refine is_load rfl ?_; refine wl_ev rfl (by first | exact c_ld H rfl rfl | exact c_ld0 H rfl rfl | exact c_ldz H rfl rfl | exact c_ldr H rfl rfl | exact c_ln H rfl rfl | exact c_lnp H rfl rfl | exact c_lnz H rfl rfl | exact c_lnr H rfl rfl) ?_) | (refine is_cmp rfl rfl ?_; first | (refine wl_ev rfl (by first | exact ev_cmpT rfl rfl rfl rfl | exact ev_cmpF rfl rfl rfl rfl | exact c_peq rfl rfl | exact c_pne rfl rfl | exact ev_strEq rfl rfl rfl | exact ev_strNe rfl rfl rfl) ?_) | (refine wl_cmp rfl rfl rfl rfl rfl (fun h => ?_) (fun h => ?_) <;> (simp only [cmpP] at h))) | (refine is_bin (op := .quo) rfl ?_; refine wl_ev rfl (ev_quo rfl rfl rfl) ?_) | (refine is_bin (op := .rem) rfl ?_; refine wl_ev rfl (ev_rem rfl rfl rfl) ?_) | (refine is_slice rfl ?_; refine wl_ev rfl (by first | exact c_ss rfl rfl | exact c_ssh rfl rfl rfl | exact c_ssl rfl rfl rfl | exact c_sslh rfl rfl rfl rfl | exact c_sa rfl rfl | exact c_sah rfl rfl rfl) ?_) | (refine is_build rfl ?_; refine wl_ev rfl (by first | exact c_sta rfl | exact c_stp rfl) ?_) | (refine is_indexAddr rfl ?_; refine wl_ev rfl (c_ix rfl rfl rfl) ?_)) <;> (simp only [nrm, ↓reduceIte, Nat.reduceAdd])) | (refine is_conv rfl ?_; first | fail | (refine wl_ev rfl (by first | exact c_cv rfl rfl | exact c_cv64 rfl rfl | exact c_cv32 rfl rfl | exact c_cv8 rfl rfl) ?_; (simp only [nrm, ↓reduceIte, Nat.reduceAdd]))) | ((first | (refine is_make rfl ?_; refine wl_rw rfl (fun K hK => c_mk H rfl rfl rfl (h := (fun g w1 hg hf H1 => hK _ _ ?_)))) | (refine is_buildSlice rfl ?_; first | (refine wl_rw rfl (fun K hK => c_s1t H rfl rfl rfl (h := (fun g w1 hg hf H1 => hK _ _ ?_)))) | (refine wl_rw rfl (fun K hK => c_s1c H rfl rfl (h := (fun g w1 hg hf H1 => hK _ _ ?_))))) | (refine is_alloc rfl ?_; refine wl_rw rfl (fun K hK => c_al H rfl (fun g w1 hg hf H1 => hK _ _ ?_))) | (refine is_box rfl ?_; first | (refine wl_rw rfl (fun K hK => la_boxN H rfl rfl (fun g w1 hg hf H1 => hK _ _ ?_))) | (refine wl_rw rfl (fun K hK => la_box1 H rfl rfl rfl (fun g w1 hg hf H1 => hK _ _ ?_)))) | (refine is_store rfl ?_; first | (refine wl_rw rfl (fun K hK => c_st H rfl rfl rfl (h := (fun w1 hf H1 => hK _ _ ?_)))) | (refine wl_rw rfl (fun K hK => c_stc H rfl rfl (h := (fun w1 hf H1 => hK _ _ ?_)))) | (refine wl_rw rfl (fun K hK => c_stn H rfl rfl rfl (h := (fun w1 hf H1 => hK _ _ ?_)))))); (clear hK K); (clear H; have H := H1; clear H1; (try dsimp only at H); clear hf); (simp only [nrm, ↓reduceIte, Nat.reduceAdd])))
  (refine wp_plan H (List.Sublist.refl _) 8 (.st 0 (.st 2 (.ld2 1 (.ld 3 (.st 4 (.ld 5 (.st 6 (.st 7 .done))))) 3 (.ld 1 (.st 4 (.ld 5 (.st 6 (.st 7 .done)))))))) rfl (by kernel_rfl) (by kernel_rfl) (by intro c a d v w h; cases d <;> exact h) (fun w1 H1 => ?_); (clear H; have H := H1; clear H1))
  (refine pl_ev rfl rfl (fun w H => ev_moveT rfl rfl) ?_; (simp only [nrm, ↓reduceIte, Nat.reduceAdd]))
  (refine pl_ev rfl rfl (fun w H => ev_moveT rfl rfl) ?_; (simp only [nrm, ↓reduceIte, Nat.reduceAdd]))
  (refine pl_ld2 ?_ ?_)
  (refine pl_rw rfl rfl (fun K hK => c_mk H rfl rfl rfl (h := (fun g w1 hg hf H1 => hK _ _ (fun hne => by first | exact absurd rfl hne | exact H1.sub (by repeat first | exact List.Sublist.refl _ | exact List.nil_sublist _ | apply List.Sublist.cons_cons | apply List.Sublist.cons)) ?_))); (clear hK K); (clear H; have H := H1; clear H1; (try dsimp only at H); clear hf); (simp only [nrm, ↓reduceIte, Nat.reduceAdd]))
  (refine pl_rw rfl rfl (fun K hK => c_mk H rfl rfl rfl (h := (fun g w1 hg hf H1 => hK _ _ (fun hne => by first | exact absurd rfl hne | exact H1.sub (by repeat first | exact List.Sublist.refl _ | exact List.nil_sublist _ | apply List.Sublist.cons_cons | apply List.Sublist.cons)) ?_))); (clear hK K); (clear H; have H := H1; clear H1; (try dsimp only at H); clear hf); (simp only [nrm, ↓reduceIte, Nat.reduceAdd]))
  (refine pl_ev rfl rfl (fun w H => by first | exact c_sta rfl | exact c_stp rfl) ?_; (simp only [nrm, ↓reduceIte, Nat.reduceAdd]))
  (first | (refine pl_rw rfl rfl (fun K hK => la_boxN H rfl rfl (fun g w1 hg hf H1 => hK _ _ (fun hne => by first | exact absurd rfl hne | exact H1.sub (by repeat first | exact List.Sublist.refl _ | exact List.nil_sublist _ | apply List.Sublist.cons_cons | apply List.Sublist.cons)) ?_)); (clear hK K); (clear H; have H := H1; clear H1; (try dsimp only at H); clear hf); (simp only [nrm, ↓reduceIte, Nat.reduceAdd])) | (refine pl_rw rfl rfl (fun K hK => la_box1 H rfl rfl rfl (fun g w1 hg hf H1 => hK _ _ (fun hne => by first | exact absurd rfl hne | exact H1.sub (by repeat first | exact List.Sublist.refl _ | exact List.nil_sublist _ | apply List.Sublist.cons_cons | apply List.Sublist.cons)) ?_)); (clear hK K); (clear H; have H := H1; clear H1; (try dsimp only at H); clear hf); (simp only [nrm, ↓reduceIte, Nat.reduceAdd])))
  (refine pl_ev rfl rfl (fun w H => ev_assignT rfl rfl) ?_; (simp only [nrm, ↓reduceIte, Nat.reduceAdd]))
  (refine pl_ev rfl rfl (fun w H => ev_assignC rfl) ?_; (simp only [nrm, ↓reduceIte, Nat.reduceAdd]))
  (refine pl_done ?_)
  rotate_left
  (refine pl_rw rfl rfl (fun K hK => c_mk H rfl rfl rfl (h := (fun g w1 hg hf H1 => hK _ _ (fun hne => by first | exact absurd rfl hne | exact H1.sub (by repeat first | exact List.Sublist.refl _ | exact List.nil_sublist _ | apply List.Sublist.cons_cons | apply List.Sublist.cons)) ?_))); (clear hK K); (clear H; have H := H1; clear H1; (try dsimp only at H); clear hf); (simp only [nrm, ↓reduceIte, Nat.reduceAdd]))
  (refine pl_rw rfl rfl (fun K hK => c_mk H rfl rfl rfl (h := (fun g w1 hg hf H1 => hK _ _ (fun hne => by first | exact absurd rfl hne | exact H1.sub (by repeat first | exact List.Sublist.refl _ | exact List.nil_sublist _ | apply List.Sublist.cons_cons | apply List.Sublist.cons)) ?_))); (clear hK K); (clear H; have H := H1; clear H1; (try dsimp only at H); clear hf); (simp only [nrm, ↓reduceIte, Nat.reduceAdd]))
  (refine pl_ev rfl rfl (fun w H => by first | exact c_sta rfl | exact c_stp rfl) ?_; (simp only [nrm, ↓reduceIte, Nat.reduceAdd]))
  (first | (refine pl_rw rfl rfl (fun K hK => la_boxN H rfl rfl (fun g w1 hg hf H1 => hK _ _ (fun hne => by first | exact absurd rfl hne | exact H1.sub (by repeat first | exact List.Sublist.refl _ | exact List.nil_sublist _ | apply List.Sublist.cons_cons | apply List.Sublist.cons)) ?_)); (clear hK K); (clear H; have H := H1; clear H1; (try dsimp only at H); clear hf); (simp only [nrm, ↓reduceIte, Nat.reduceAdd])) | (refine pl_rw rfl rfl (fun K hK => la_box1 H rfl rfl rfl (fun g w1 hg hf H1 => hK _ _ (fun hne => by first | exact absurd rfl hne | exact H1.sub (by repeat first | exact List.Sublist.refl _ | exact List.nil_sublist _ | apply List.Sublist.cons_cons | apply List.Sublist.cons)) ?_)); (clear hK K); (clear H; have H := H1; clear H1; (try dsimp only at H); clear hf); (simp only [nrm, ↓reduceIte, Nat.reduceAdd])))
  (refine pl_ev rfl rfl (fun w H => ev_assignT rfl rfl) ?_; (simp only [nrm, ↓reduceIte, Nat.reduceAdd]))
  (refine pl_ev rfl rfl (fun w H => ev_assignC rfl) ?_; (simp only [nrm, ↓reduceIte, Nat.reduceAdd]))
  (refine pl_done ?_)
  rotate_left
  all_goals go_wp2_with (first | ((first | (refine is_load rfl ?_; refine wl_ev rfl (by first | exact c_ld H rfl rfl | exact c_ld0 H rfl rfl | exact c_ldz H rfl rfl | exact c_ldr H rfl rfl | exact c_ln H rfl rfl | exact c_lnp H rfl rfl | exact c_lnz H rfl rfl | exact c_lnr H rfl rfl) ?_) | (refine is_cmp rfl rfl ?_; first | (refine wl_ev rfl (by first | exact ev_cmpT rfl rfl rfl rfl | exact ev_cmpF rfl rfl rfl rfl | exact c_peq rfl rfl | exact c_pne rfl rfl | exact ev_strEq rfl rfl rfl | exact ev_strNe rfl rfl rfl) ?_) | (refine wl_cmp rfl rfl rfl rfl rfl (fun h => ?_) (fun h => ?_) <;> (simp only [cmpP] at h))) | (refine is_bin (op := .quo) rfl ?_; refine wl_ev rfl (ev_quo rfl rfl rfl) ?_) | (refine is_bin (op := .rem) rfl ?_; refine wl_ev rfl (ev_rem rfl rfl rfl) ?_) | (refine is_slice rfl ?_; refine wl_ev rfl (by first | exact c_ss rfl rfl | exact c_ssh rfl rfl rfl | exact c_ssl rfl rfl rfl | exact c_sslh rfl rfl rfl rfl | exact c_sa rfl rfl | exact c_sah rfl rfl rfl) ?_) | (refine is_build rfl ?_; refine wl_ev rfl (by first | exact c_sta rfl | exact c_stp rfl) ?_) | (refine is_indexAddr rfl ?_; refine wl_ev rfl (c_ix rfl rfl rfl) ?_)) <;> (simp only [nrm, ↓reduceIte, Nat.reduceAdd])) | (refine is_conv rfl ?_; first | fail | (refine wl_ev rfl (by first | exact c_cv rfl rfl | exact c_cv64 rfl rfl | exact c_cv32 rfl rfl | exact c_cv8 rfl rfl) ?_; (simp only [nrm, ↓reduceIte, Nat.reduceAdd]))) | ((first | (refine is_make rfl ?_; refine wl_rw rfl (fun K hK => c_mk H rfl rfl rfl (h := (fun g w1 hg hf H1 => hK _ _ ?_)))) | (refine is_buildSlice rfl ?_; first | (refine wl_rw rfl (fun K hK => c_s1t H rfl rfl rfl (h := (fun g w1 hg hf H1 => hK _ _ ?_)))) | (refine wl_rw rfl (fun K hK => c_s1c H rfl rfl (h := (fun g w1 hg hf H1 => hK _ _ ?_))))) | (refine is_alloc rfl ?_; refine wl_rw rfl (fun K hK => c_al H rfl (fun g w1 hg hf H1 => hK _ _ ?_))) | (refine is_box rfl ?_; first | (refine wl_rw rfl (fun K hK => la_boxN H rfl rfl (fun g w1 hg hf H1 => hK _ _ ?_))) | (refine wl_rw rfl (fun K hK => la_box1 H rfl rfl rfl (fun g w1 hg hf H1 => hK _ _ ?_)))) | (refine is_store rfl ?_; first | (refine wl_rw rfl (fun K hK => c_st H rfl rfl rfl (h := (fun w1 hf H1 => hK _ _ ?_)))) | (refine wl_rw rfl (fun K hK => c_stc H rfl rfl (h := (fun w1 hf H1 => hK _ _ ?_)))) | (refine wl_rw rfl (fun K hK => c_stn H rfl rfl rfl (h := (fun w1 hf H1 => hK _ _ ?_)))))); (clear hK K); (clear H; have H := H1; clear H1; (try dsimp only at H); clear hf); (simp only [nrm, ↓reduceIte, Nat.reduceAdd])))
  all_goals go_ret2
  all_goals rw [Int.toNat_natCast, Hfl.out] at H
  all_goals have hn := H.nodup
  all_goals simp only [List.flatMap_cons, List.flatMap_nil, Ent.own, List.cons_append, List.nil_append, List.nodup_cons, List.mem_cons, List.not_mem_nil, or_false, not_or] at hn
  · refine ⟨_, _, rfl, H.fr, ⟨Hok.out, _, _, _, [], rfl, ?_, by simpa using H.get (.head _), H.get (.tail _ (.tail _ (.head _))), H.get (.tail _ (.head _)), .inl ⟨rfl, rfl, rfl⟩⟩, ?_⟩ <;> simp <;> omega
  · refine ⟨_, _, rfl, H.fr, ⟨Hok.out, _, _, _, [], rfl, ?_, by simpa using H.get (.head _), H.get (.tail _ (.head _)), H.get (.tail _ (.tail _ (.head _))), .inl ⟨rfl, rfl, rfl⟩⟩, ?_⟩ <;> simp <;> omega

set_option maxHeartbeats 400000 in
set_option maxRecDepth 100000 in
/-- The bytes are copied into a new slice. -/
theorem data_any (s : List UInt8) (hs : s.length ≤ 64) (w : World) :
    Calls Try.prog 42 #[.agg (blkC s).toArray] w fun e w' => ∃ v, e = .returned v ∧ Fr [] w w' ∧ w'.ownsRow w.heap.size 5 1 v s.length (bytesV s) := by
  have H := Hp.start [] w
  have hl := blkC_len s hs
  have hv : (blkC s)[64]? = some (.int .i64 s.length) := by
    have : (blkC s)[64]? = ((List.replicate (64 - s.length) (Value.int .u8 0)) ++ [Value.int .i64 s.length])[64 - s.length]? := by
      rw [blkC, List.getElem?_append_right (by rw [bytesV_len]; exact hs), bytesV_len]
    rw [this, List.getElem?_append_right (by simp)]; simp
  have Hv := hid hv; clear hv
  by_cases h0 : s.length = 0
  · go_enter Try.func42, Try.ntmps42
    go_wp2_with (first | ((first | (refine is_load rfl ?_; refine wl_ev rfl (by first | exact c_ld H rfl rfl | exact c_ld0 H rfl rfl | exact c_ldz H rfl rfl | exact c_ldr H rfl rfl | exact c_ln H rfl rfl | exact c_lnp H rfl rfl | exact c_lnz H rfl rfl | exact c_lnr H rfl rfl) ?_) | (refine is_cmp rfl rfl ?_; first | (refine wl_ev rfl (by first | exact ev_cmpT rfl rfl rfl rfl | exact ev_cmpF rfl rfl rfl rfl | exact c_peq rfl rfl | exact c_pne rfl rfl | exact ev_strEq rfl rfl rfl | exact ev_strNe rfl rfl rfl) ?_) | (refine wl_cmp rfl rfl rfl rfl rfl (fun h => ?_) (fun h => ?_) <;> (simp only [cmpP] at h))) | (refine is_bin (op := .quo) rfl ?_; refine wl_ev rfl (ev_quo rfl rfl rfl) ?_) | (refine is_bin (op := .rem) rfl ?_; refine wl_ev rfl (ev_rem rfl rfl rfl) ?_) | (refine is_slice rfl ?_; refine wl_ev rfl (by first | exact c_ss rfl rfl | exact c_ssh rfl rfl rfl | exact c_ssl rfl rfl rfl | exact c_sslh rfl rfl rfl rfl | exact c_sa rfl rfl | exact c_sah rfl rfl rfl) ?_) | (refine is_build rfl ?_; refine wl_ev rfl (by first | exact c_sta rfl | exact c_stp rfl) ?_) | (refine is_indexAddr rfl ?_; refine wl_ev rfl (c_ix rfl rfl rfl) ?_)) <;> (simp only [nrm, ↓reduceIte, Nat.reduceAdd])) | (refine is_conv rfl ?_; first | fail | (refine wl_ev rfl (by first | exact c_cv rfl rfl | exact c_cv64 rfl rfl | exact c_cv32 rfl rfl | exact c_cv8 rfl rfl) ?_; (simp only [nrm, ↓reduceIte, Nat.reduceAdd]))) | ((first | (refine is_make rfl ?_; refine wl_rw rfl (fun K hK => c_mk H rfl rfl rfl (h := (fun g w1 hg hf H1 => hK _ _ ?_)))) | (refine is_buildSlice rfl ?_; first | (refine wl_rw rfl (fun K hK => c_s1t H rfl rfl rfl (h := (fun g w1 hg hf H1 => hK _ _ ?_)))) | (refine wl_rw rfl (fun K hK => c_s1c H rfl rfl (h := (fun g w1 hg hf H1 => hK _ _ ?_))))) | (refine is_alloc rfl ?_; refine wl_rw rfl (fun K hK => c_al H rfl (fun g w1 hg hf H1 => hK _ _ ?_))) | (refine is_box rfl ?_; first | (refine wl_rw rfl (fun K hK => la_boxN H rfl rfl (fun g w1 hg hf H1 => hK _ _ ?_))) | (refine wl_rw rfl (fun K hK => la_box1 H rfl rfl rfl (fun g w1 hg hf H1 => hK _ _ ?_)))) | (refine is_store rfl ?_; first | (refine wl_rw rfl (fun K hK => c_st H rfl rfl rfl (h := (fun w1 hf H1 => hK _ _ ?_)))) | (refine wl_rw rfl (fun K hK => c_stc H rfl rfl (h := (fun w1 hf H1 => hK _ _ ?_)))) | (refine wl_rw rfl (fun K hK => c_stn H rfl rfl rfl (h := (fun w1 hf H1 => hK _ _ ?_)))))); (clear hK K); (clear H; have H := H1; clear H1; (try dsimp only at H); clear hf); (simp only [nrm, ↓reduceIte, Nat.reduceAdd])) | (refine is_blt (b := .append) rfl ?_; refine wl_rw rfl (fun K hK => c_ap0 H rfl rfl rfl (fun w1 hf H1 => hK _ _ ?_)); (clear hK K); (clear H; have H := H1; clear H1; (try dsimp only at H); clear hf); (simp only [nrm, ↓reduceIte, Nat.reduceAdd])))
    (refine bodyPost_ret (results_tmp rfl _ _ _) rfl ?_)
    have hs0 : s = [] := List.eq_nil_of_length_eq_zero h0
    subst hs0
    exact ⟨_, rfl, H.fr, World.ownsRow_nil _ _ _ _⟩
  · go_enter Try.func42, Try.ntmps42
    go_wp2_with (first | ((first | (refine is_load rfl ?_; refine wl_ev rfl (by first | exact c_ld H rfl rfl | exact c_ld0 H rfl rfl | exact c_ldz H rfl rfl | exact c_ldr H rfl rfl | exact c_ln H rfl rfl | exact c_lnp H rfl rfl | exact c_lnz H rfl rfl | exact c_lnr H rfl rfl) ?_) | (refine is_cmp rfl rfl ?_; first | (refine wl_ev rfl (by first | exact ev_cmpT rfl rfl rfl rfl | exact ev_cmpF rfl rfl rfl rfl | exact c_peq rfl rfl | exact c_pne rfl rfl | exact ev_strEq rfl rfl rfl | exact ev_strNe rfl rfl rfl) ?_) | (refine wl_cmp rfl rfl rfl rfl rfl (fun h => ?_) (fun h => ?_) <;> (simp only [cmpP] at h))) | (refine is_bin (op := .quo) rfl ?_; refine wl_ev rfl (ev_quo rfl rfl rfl) ?_) | (refine is_bin (op := .rem) rfl ?_; refine wl_ev rfl (ev_rem rfl rfl rfl) ?_) | (refine is_slice rfl ?_; refine wl_ev rfl (by first | exact c_ss rfl rfl | exact c_ssh rfl rfl rfl | exact c_ssl rfl rfl rfl | exact c_sslh rfl rfl rfl rfl | exact c_sa rfl rfl | exact c_sah rfl rfl rfl) ?_) | (refine is_build rfl ?_; refine wl_ev rfl (by first | exact c_sta rfl | exact c_stp rfl) ?_) | (refine is_indexAddr rfl ?_; refine wl_ev rfl (c_ix rfl rfl rfl) ?_)) <;> (simp only [nrm, ↓reduceIte, Nat.reduceAdd])) | (refine is_conv rfl ?_; first | fail | (refine wl_ev rfl (by first | exact c_cv rfl rfl | exact c_cv64 rfl rfl | exact c_cv32 rfl rfl | exact c_cv8 rfl rfl) ?_; (simp only [nrm, ↓reduceIte, Nat.reduceAdd]))) | ((first | (refine is_make rfl ?_; refine wl_rw rfl (fun K hK => c_mk H rfl rfl rfl (h := (fun g w1 hg hf H1 => hK _ _ ?_)))) | (refine is_buildSlice rfl ?_; first | (refine wl_rw rfl (fun K hK => c_s1t H rfl rfl rfl (h := (fun g w1 hg hf H1 => hK _ _ ?_)))) | (refine wl_rw rfl (fun K hK => c_s1c H rfl rfl (h := (fun g w1 hg hf H1 => hK _ _ ?_))))) | (refine is_alloc rfl ?_; refine wl_rw rfl (fun K hK => c_al H rfl (fun g w1 hg hf H1 => hK _ _ ?_))) | (refine is_box rfl ?_; first | (refine wl_rw rfl (fun K hK => la_boxN H rfl rfl (fun g w1 hg hf H1 => hK _ _ ?_))) | (refine wl_rw rfl (fun K hK => la_box1 H rfl rfl rfl (fun g w1 hg hf H1 => hK _ _ ?_)))) | (refine is_store rfl ?_; first | (refine wl_rw rfl (fun K hK => c_st H rfl rfl rfl (h := (fun w1 hf H1 => hK _ _ ?_)))) | (refine wl_rw rfl (fun K hK => c_stc H rfl rfl (h := (fun w1 hf H1 => hK _ _ ?_)))) | (refine wl_rw rfl (fun K hK => c_stn H rfl rfl rfl (h := (fun w1 hf H1 => hK _ _ ?_)))))); (clear hK K); (clear H; have H := H1; clear H1; (try dsimp only at H); clear hf); (simp only [nrm, ↓reduceIte, Nat.reduceAdd])) | (refine is_blt (b := .append) rfl ?_; go_loud (refine wl_rw rfl (fun K hK => c_apn H rfl rfl rfl (H.rd (List.prefix_append (bytesV s) _)) (by rw [bytesV_len]; omega) (by omega) (by omega) (by omega) (fun g w1 cap pad hg hc hcm hpl hf H1 => hK _ _ ?_))); (clear hK K); (clear H; have H := H1; clear H1; (try dsimp only at H); clear hf); (simp only [nrm, ↓reduceIte, Nat.reduceAdd])))
    (refine bodyPost_ret (results_tmp rfl _ _ _) rfl ?_)
    exact ⟨_, rfl, H.fr, H.own hg.1 (by assumption) (by assumption) hpl (by rw [bytesV_len]; omega)⟩
end Go.Proofs.Ytgnpgikbdomdpaa
