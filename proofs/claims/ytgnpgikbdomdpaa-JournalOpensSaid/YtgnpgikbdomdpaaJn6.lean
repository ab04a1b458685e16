/-
  The journal, sixth part: Open.
-/
import Derived.Test.YtgnpgikbdomdpaaJn5
namespace Go.Proofs.Ytgnpgikbdomdpaa
open Go.RowKit
set_option linter.unusedSimpArgs false
set_option linter.unusedVariables false


/-- Loading goes on until a record is not intact (at most k times). -/
def openF (cur : List (List UInt8)) : Nat → List (List UInt8) × Nat → List (List UInt8) × Nat
  | 0, x => x
  | k + 1, x => match loadP cur x.1.length x.2 with
    | none => x
    | some (d, p) => openF cur k (x.1 ++ [d], x.2 + p)
def openR (cur : List (List UInt8)) : List (List UInt8) × Nat := openF cur (cur.length + 1) ([], 0)
theorem openF_none {cur : List (List UInt8)} {k : Nat} {x : List (List UInt8) × Nat} (h : loadP cur x.1.length x.2 = none) : openF cur k x = x := by
  cases k with
  | zero => rfl
  | succ k => simp [openF, h]
theorem openF_some {cur : List (List UInt8)} {k : Nat} {x : List (List UInt8) × Nat} {d : List UInt8} {p : Nat} (h : loadP cur x.1.length x.2 = some (d, p)) : openF cur (k + 1) x = openF cur k (x.1 ++ [d], x.2 + p) := by simp [openF, h]
theorem loadP_some {cur : List (List UInt8)} {n next : Nat} {d : List UInt8} {p : Nat} (h : loadP cur n next = some (d, p)) : 1 ≤ p ∧ next + p ≤ cur.length := by
  unfold loadP at h
  split at h
  · rename_i hc
    simp only [Option.some.injEq, Prod.mk.injEq] at h
    obtain ⟨_, rfl⟩ := h
    exact ⟨hc.2.1, hc.2.2.1⟩
  · cases h
/-- Blocks behind the records are cleared: contents, pending writes, whether one was cleared. -/
def clr (x : List (List UInt8) × List (Nat × List UInt8) × Bool) (i : Nat) : List (List UInt8) × List (Nat × List UInt8) × Bool :=
  if (readD x.1 i).length = 0 then x else (x.1.set i [], x.2.1 ++ [(i, [])], true)
def clears (cur : List (List UInt8)) (pend : List (Nat × List UInt8)) (next k : Nat) : List (List UInt8) × List (Nat × List UInt8) × Bool := (List.range' next k).foldl clr (cur, pend, false)
theorem clears_succ (cur : List (List UInt8)) (pend : List (Nat × List UInt8)) (next k : Nat) : clears cur pend next (k + 1) = clr (clears cur pend next k) (next + k) := by
  unfold clears
  rw [List.range'_concat, List.foldl_append]
  simp
theorem clr_len (x : List (List UInt8) × List (Nat × List UInt8) × Bool) (i : Nat) : (clr x i).1.length = x.1.length ∧ (clr x i).2.1.length ≤ x.2.1.length + 1 := by
  unfold clr; split <;> simp
theorem clears_len (cur : List (List UInt8)) (pend : List (Nat × List UInt8)) (next : Nat) : ∀ k, (clears cur pend next k).1.length = cur.length ∧ (clears cur pend next k).2.1.length ≤ pend.length + k
  | 0 => by simp [clears]
  | k + 1 => by
    rw [clears_succ]
    have h := clr_len (clears cur pend next k) (next + k)
    have := clears_len cur pend next k
    omega
/-- The disk behind Open. -/
def openD (cur dur : List (List UInt8)) (pend : List (Nat × List UInt8)) : List (List UInt8) × List (List UInt8) × List (Nat × List UInt8) :=
  let x := clears cur pend (openR cur).2 (cur.length - (openR cur).2)
  if x.2.2 then (x.1, x.1, []) else (x.1, dur, x.2.1)
def cellNat (w : World) (j : Nat) : Nat := match w.cell? ⟨j, 2, none⟩ with
  | some (.int _ z) => z.toNat
  | _ => 0
theorem JAt.nat {j b : Nat} {recs : List (List UInt8)} {next : Nat} {S : List Nat} {w : World} (h : JAt j b recs next S w) : cellNat w j = next := by
  obtain ⟨rv, hs, S1, S2, _, _, h1, _⟩ := h
  unfold cellNat
  rw [cell_of_row w j 2 _ _ _ h1]
  simp
theorem JAt.cellN {j b : Nat} {recs : List (List UInt8)} {next : Nat} {S : List Nat} {w : World} (h : JAt j b recs next S w) : w.cell? ⟨j, 2, none⟩ = some (.int .i64 next) := by
  obtain ⟨rv, hs, S1, S2, _, _, h1, _⟩ := h
  rw [cell_of_row w j 2 _ _ _ h1]
  simp
section
variable {T : List Nat} {w0 w : World} {l : List Ent}
theorem Hp.jrn (H : Hp T w0 w l) (j : Nat) {S S2 : List Nat} {b next : Nat} {recs : List (List UInt8)} {f : Ent → List Ent} [i : Oi j S (JAt j b recs next S2) l f] : JAt j b recs next S2 w := H.ob j
/-- A fresh journal. -/
theorem Hp.blkJ {j b : Nat} (H : Hp T w0 w (.blk j [.pointer (some ⟨b, 0, none⟩), .slice none 0 0, .int .i64 0] 91 :: l)) : Hp T w0 w (.obj j [j] (JAt j b [] 0 [j]) :: l) :=
  H.recast (Rep.head l) rfl ⟨⟨.slice none 0 0, [], [], [], rfl, by simp, (H.ok _ (.head _)).1, RowAt.nil w, rfl⟩, JAt.firm, by simpa using (H.ok _ (.head _)).2⟩
/-- Two objects of the list lie apart. -/
theorem Hp.apart2 (H : Hp T w0 w l) (k k' : Nat) {S S' : List Nat} {Q Q' : World → Prop} {f g : Ent → List Ent} [i : Oi k S Q l f] [i' : Oi k' S' Q' l g] (hk : k ≠ k') : ∀ x ∈ S', x ∉ S := by
  have h1 := (i.h (.obj k S Q)).of H.nodup (.obj k' S' Q')
  rw [Rep.same (i.h (.obj k S Q))] at h1
  rcases h1 (i'.h (.obj k' S' Q')).mem with h | h
  · injection h with e; exact absurd e.symm hk
  · exact h.2
end
set_option maxHeartbeats 40000000 in
set_option maxRecDepth 100000 in
theorem open_any {w : World} {b : Nat} {cur dur : List (List UInt8)} {pend : List (Nat × List UInt8)} {SD : List Nat} (D : DRep w b cur dur pend SD) (hpl : pend.length ≤ 500000) :
    Calls Try.prog 26 #[.pointer (some ⟨b, 0, none⟩)] w fun e w' => ∃ j, e = .returned (.tuple #[.pointer (some ⟨j, 0, none⟩), .int .i64 0]) ∧ Fr SD w w' ∧ ∃ SJ SD', JAt j b (openR cur).1 (openR cur).2 SJ w' ∧ DRep w' b (openD cur dur pend).1 (openD cur dur pend).2.1 (openD cur dur pend).2.2 SD' ∧ (∀ x ∈ SJ, x ∈ SD ∨ w.heap.size ≤ x) ∧ (∀ x ∈ SD', x ∈ SD ∨ w.heap.size ≤ x) ∧ ∀ x ∈ SJ, x ∉ SD' := by
  have hmax := D.1.max
  have hbw : b < w.heap.size := by
    have D' := D
    obtain ⟨_, c, d, pv, ps, hS, _⟩ := D'
    exact D.lt b (by rw [hS]; simp)
  have H := (Hp.start SD w).pushObj b (Q := DiskAt b cur dur pend SD) D.o Fm.h (fun x hx => .inl hx) (by simp)
  clear D
  go_enter Try.func26, Try.ntmps26
  go_wp2_with (first | ((first | (refine is_load rfl ?_; refine wl_ev rfl (by first | exact c_ld H rfl rfl | exact c_ld0 H rfl rfl | exact c_ldz H rfl rfl | exact c_ldr H rfl rfl | exact c_ln H rfl rfl | exact c_lnp H rfl rfl | exact c_lnz H rfl rfl | exact c_lnr H rfl rfl) ?_) | (refine is_cmp rfl rfl ?_; first | (refine wl_ev rfl (by first | exact c_seq rfl rfl | exact ev_cmpT rfl rfl rfl rfl | exact ev_cmpF rfl rfl rfl rfl | exact c_peq rfl rfl | exact c_pne rfl rfl | exact ev_strEq rfl rfl rfl | exact ev_strNe rfl rfl rfl) ?_) | (refine wl_cmp rfl rfl rfl rfl rfl (fun h => ?_) (fun h => ?_) <;> (simp only [cmpP] at h))) | (refine is_bin (op := .quo) rfl ?_; refine wl_ev rfl (ev_quo rfl rfl rfl) ?_) | (refine is_bin (op := .rem) rfl ?_; refine wl_ev rfl (ev_rem rfl rfl rfl) ?_) | (refine is_slice rfl ?_; refine wl_ev rfl (by first | exact c_ss rfl rfl | exact c_ssh rfl rfl rfl | exact c_ssl rfl rfl rfl | exact c_sslh rfl rfl rfl rfl | exact c_sa rfl rfl | exact c_sah rfl rfl rfl) ?_) | (refine is_build rfl ?_; refine wl_ev rfl (by first | exact c_sta rfl | exact c_stp rfl) ?_) | (refine is_indexAddr rfl ?_; refine wl_ev rfl (c_ix rfl rfl rfl) ?_)) <;> (simp only [nrm, ↓reduceIte, Nat.reduceAdd])) | (refine is_conv rfl ?_; first | fail | (refine wl_ev rfl (by first | exact c_cv rfl rfl | exact c_cv64 rfl rfl | exact c_cv32 rfl rfl | exact c_cv8 rfl rfl) ?_; (simp only [nrm, ↓reduceIte, Nat.reduceAdd]))) | ((first | (refine is_make rfl ?_; refine wl_rw rfl (fun K hK => c_mk H rfl rfl rfl (h := (fun g w1 hg hf H1 => hK _ _ ?_)))) | (refine is_buildSlice rfl ?_; first | (refine wl_rw rfl (fun K hK => c_s1t H rfl rfl rfl (h := (fun g w1 hg hf H1 => hK _ _ ?_)))) | (refine wl_rw rfl (fun K hK => c_s1c H rfl rfl (h := (fun g w1 hg hf H1 => hK _ _ ?_))))) | (refine is_alloc rfl ?_; refine wl_rw rfl (fun K hK => c_al H rfl (fun g w1 hg hf H1 => hK _ _ ?_))) | (refine is_box rfl ?_; first | (refine wl_rw rfl (fun K hK => la_boxN H rfl rfl (fun g w1 hg hf H1 => hK _ _ ?_))) | (refine wl_rw rfl (fun K hK => la_box1 H rfl rfl rfl (fun g w1 hg hf H1 => hK _ _ ?_)))) | (refine is_store rfl ?_; first | (refine wl_rw rfl (fun K hK => c_st H rfl rfl rfl (h := (fun w1 hf H1 => hK _ _ ?_)))) | (refine wl_rw rfl (fun K hK => c_stc H rfl rfl (h := (fun w1 hf H1 => hK _ _ ?_)))) | (refine wl_rw rfl (fun K hK => c_stn H rfl rfl rfl (h := (fun w1 hf H1 => hK _ _ ?_)))))); (clear hK K); (clear H; have H := H1; clear H1; (try dsimp only at H); (try clear hf)); (simp only [nrm, ↓reduceIte, Nat.reduceAdd])))
  have hgb : g ≠ b := by omega
  have H := Hp.blkJ H
  go_loopw [] (fun wr => ∃ (recs : List (List UInt8)) (next k : Nat) (SJ : List Nat), next ≤ cur.length ∧ recs.length ≤ next ∧ cur.length < next + k ∧ openF cur k (recs, next) = openR cur ∧ Hp SD w wr [.obj g SJ (JAt g b recs next SJ), .obj b SD (DiskAt b cur dur pend SD)]) (fun wr => cur.length - cellNat wr g)
  case atStart => exact ⟨[], 0, cur.length + 1, _, Nat.zero_le _, Nat.zero_le _, by omega, rfl, H⟩
  case round =>
    clear H
    obtain ⟨recs, next, k, SJ, hnx, hrn, hk, hop, H⟩ := hrel
    have hcn := (H.jrn g).nat
    have Hcn := hid hcn; clear hcn
    have Hop := hid hop; clear hop
    go_wp2_with (first | ((first | (refine is_load rfl ?_; refine wl_ev rfl (by first | exact c_ld H rfl rfl | exact c_ld0 H rfl rfl | exact c_ldz H rfl rfl | exact c_ldr H rfl rfl | exact c_ln H rfl rfl | exact c_lnp H rfl rfl | exact c_lnz H rfl rfl | exact c_lnr H rfl rfl) ?_) | (refine is_cmp rfl rfl ?_; first | (refine wl_ev rfl (by first | exact c_seq rfl rfl | exact ev_cmpT rfl rfl rfl rfl | exact ev_cmpF rfl rfl rfl rfl | exact c_peq rfl rfl | exact c_pne rfl rfl | exact ev_strEq rfl rfl rfl | exact ev_strNe rfl rfl rfl) ?_) | (refine wl_cmp rfl rfl rfl rfl rfl (fun h => ?_) (fun h => ?_) <;> (simp only [cmpP] at h))) | (refine is_bin (op := .quo) rfl ?_; refine wl_ev rfl (ev_quo rfl rfl rfl) ?_) | (refine is_bin (op := .rem) rfl ?_; refine wl_ev rfl (ev_rem rfl rfl rfl) ?_) | (refine is_slice rfl ?_; refine wl_ev rfl (by first | exact c_ss rfl rfl | exact c_ssh rfl rfl rfl | exact c_ssl rfl rfl rfl | exact c_sslh rfl rfl rfl rfl | exact c_sa rfl rfl | exact c_sah rfl rfl rfl) ?_) | (refine is_build rfl ?_; refine wl_ev rfl (by first | exact c_sta rfl | exact c_stp rfl) ?_) | (refine is_indexAddr rfl ?_; refine wl_ev rfl (c_ix rfl rfl rfl) ?_)) <;> (simp only [nrm, ↓reduceIte, Nat.reduceAdd])) | (refine is_conv rfl ?_; first | fail | (refine wl_ev rfl (by first | exact c_cv rfl rfl | exact c_cv64 rfl rfl | exact c_cv32 rfl rfl | exact c_cv8 rfl rfl) ?_; (simp only [nrm, ↓reduceIte, Nat.reduceAdd]))) | ((first | (refine is_make rfl ?_; refine wl_rw rfl (fun K hK => c_mk H rfl rfl rfl (h := (fun g w1 hg hf H1 => hK _ _ ?_)))) | (refine is_buildSlice rfl ?_; first | (refine wl_rw rfl (fun K hK => c_s1t H rfl rfl rfl (h := (fun g w1 hg hf H1 => hK _ _ ?_)))) | (refine wl_rw rfl (fun K hK => c_s1c H rfl rfl (h := (fun g w1 hg hf H1 => hK _ _ ?_))))) | (refine is_alloc rfl ?_; refine wl_rw rfl (fun K hK => c_al H rfl (fun g w1 hg hf H1 => hK _ _ ?_))) | (refine is_box rfl ?_; first | (refine wl_rw rfl (fun K hK => la_boxN H rfl rfl (fun g w1 hg hf H1 => hK _ _ ?_))) | (refine wl_rw rfl (fun K hK => la_box1 H rfl rfl rfl (fun g w1 hg hf H1 => hK _ _ ?_)))) | (refine is_store rfl ?_; first | (refine wl_rw rfl (fun K hK => c_st H rfl rfl rfl (h := (fun w1 hf H1 => hK _ _ ?_)))) | (refine wl_rw rfl (fun K hK => c_stc H rfl rfl (h := (fun w1 hf H1 => hK _ _ ?_)))) | (refine wl_rw rfl (fun K hK => c_stn H rfl rfl rfl (h := (fun w1 hf H1 => hK _ _ ?_)))))); (clear hK K); (clear H; have H := H1; clear H1; (try dsimp only at H); (try clear hf)); (simp only [nrm, ↓reduceIte, Nat.reduceAdd])))
    go_loud (refine Calls.mono (load_any (H.jrn g) (H.disk b) (H.apart2 g b hgb) hnx (by omega)) ?_)
    rintro e w1 ⟨rfl, hF, S', J', hS'⟩
    have H1 := H.upd (w' := w1) g hF J' hS'
    clear H hF J' hS'; have H := H1; clear H1
    cases hlp : loadP cur recs.length next with
    | some x =>
      obtain ⟨d, p⟩ := x
      obtain ⟨hp1, hp2⟩ := loadP_some hlp
      have hlr : loadR cur recs next = (recs ++ [d], next + p) := by unfold loadR; rw [hlp]
      rw [hlr] at H
      obtain ⟨k', rfl⟩ : ∃ k', k = k' + 1 := ⟨k - 1, by omega⟩
      have hop2 := Hop.out
      rw [openF_some hlp] at hop2
      have Hop2 := hid hop2; clear hop2 hlr
      have Hlp := hid hlp; clear hlp
      go_wp2_with (first | ((first | (refine is_load rfl ?_; refine wl_ev rfl (by first | exact c_ld H rfl rfl | exact c_ld0 H rfl rfl | exact c_ldz H rfl rfl | exact c_ldr H rfl rfl | exact c_ln H rfl rfl | exact c_lnp H rfl rfl | exact c_lnz H rfl rfl | exact c_lnr H rfl rfl) ?_) | (refine is_cmp rfl rfl ?_; first | (refine wl_ev rfl (by first | exact c_seq rfl rfl | exact ev_cmpT rfl rfl rfl rfl | exact ev_cmpF rfl rfl rfl rfl | exact c_peq rfl rfl | exact c_pne rfl rfl | exact ev_strEq rfl rfl rfl | exact ev_strNe rfl rfl rfl) ?_) | (refine wl_cmp rfl rfl rfl rfl rfl (fun h => ?_) (fun h => ?_) <;> (simp only [cmpP] at h))) | (refine is_bin (op := .quo) rfl ?_; refine wl_ev rfl (ev_quo rfl rfl rfl) ?_) | (refine is_bin (op := .rem) rfl ?_; refine wl_ev rfl (ev_rem rfl rfl rfl) ?_) | (refine is_slice rfl ?_; refine wl_ev rfl (by first | exact c_ss rfl rfl | exact c_ssh rfl rfl rfl | exact c_ssl rfl rfl rfl | exact c_sslh rfl rfl rfl rfl | exact c_sa rfl rfl | exact c_sah rfl rfl rfl) ?_) | (refine is_build rfl ?_; refine wl_ev rfl (by first | exact c_sta rfl | exact c_stp rfl) ?_) | (refine is_indexAddr rfl ?_; refine wl_ev rfl (c_ix rfl rfl rfl) ?_)) <;> (simp only [nrm, ↓reduceIte, Nat.reduceAdd])) | (refine is_conv rfl ?_; first | fail | (refine wl_ev rfl (by first | exact c_cv rfl rfl | exact c_cv64 rfl rfl | exact c_cv32 rfl rfl | exact c_cv8 rfl rfl) ?_; (simp only [nrm, ↓reduceIte, Nat.reduceAdd]))) | ((first | (refine is_make rfl ?_; refine wl_rw rfl (fun K hK => c_mk H rfl rfl rfl (h := (fun g w1 hg hf H1 => hK _ _ ?_)))) | (refine is_buildSlice rfl ?_; first | (refine wl_rw rfl (fun K hK => c_s1t H rfl rfl rfl (h := (fun g w1 hg hf H1 => hK _ _ ?_)))) | (refine wl_rw rfl (fun K hK => c_s1c H rfl rfl (h := (fun g w1 hg hf H1 => hK _ _ ?_))))) | (refine is_alloc rfl ?_; refine wl_rw rfl (fun K hK => c_al H rfl (fun g w1 hg hf H1 => hK _ _ ?_))) | (refine is_box rfl ?_; first | (refine wl_rw rfl (fun K hK => la_boxN H rfl rfl (fun g w1 hg hf H1 => hK _ _ ?_))) | (refine wl_rw rfl (fun K hK => la_box1 H rfl rfl rfl (fun g w1 hg hf H1 => hK _ _ ?_)))) | (refine is_store rfl ?_; first | (refine wl_rw rfl (fun K hK => c_st H rfl rfl rfl (h := (fun w1 hf H1 => hK _ _ ?_)))) | (refine wl_rw rfl (fun K hK => c_stc H rfl rfl (h := (fun w1 hf H1 => hK _ _ ?_)))) | (refine wl_rw rfl (fun K hK => c_stn H rfl rfl rfl (h := (fun w1 hf H1 => hK _ _ ?_)))))); (clear hK K); (clear H; have H := H1; clear H1; (try dsimp only at H); (try clear hf)); (simp only [nrm, ↓reduceIte, Nat.reduceAdd])))
      go_roundw
      case rel => exact ⟨recs ++ [d], next + p, k', _, hp2, by rw [List.length_append, List.length_singleton]; omega, by omega, Hop2.out, H⟩
      case measure => rw [(H.jrn g).nat, Hcn.out]; omega
    | none =>
      have hlr : loadR cur recs next = (recs, next) := by unfold loadR; rw [hlp]
      rw [hlr] at H
      have hopn : openR cur = (recs, next) := by rw [← Hop.out, openF_none hlp]
      have Hopn := hid hopn; clear hopn hlr Hop
      have Hlp := hid hlp; clear hlp
      have hcell := (H.jrn g).cellN
      go_wp2_with (first | ((first | (refine is_load rfl ?_; refine wl_ev rfl (by first | exact c_ld H rfl rfl | exact c_ld0 H rfl rfl | exact c_ldz H rfl rfl | exact c_ldr H rfl rfl | exact c_ln H rfl rfl | exact c_lnp H rfl rfl | exact c_lnz H rfl rfl | exact c_lnr H rfl rfl) ?_) | (refine is_cmp rfl rfl ?_; first | (refine wl_ev rfl (by first | exact c_seq rfl rfl | exact ev_cmpT rfl rfl rfl rfl | exact ev_cmpF rfl rfl rfl rfl | exact c_peq rfl rfl | exact c_pne rfl rfl | exact ev_strEq rfl rfl rfl | exact ev_strNe rfl rfl rfl) ?_) | (refine wl_cmp rfl rfl rfl rfl rfl (fun h => ?_) (fun h => ?_) <;> (simp only [cmpP] at h))) | (refine is_bin (op := .quo) rfl ?_; refine wl_ev rfl (ev_quo rfl rfl rfl) ?_) | (refine is_bin (op := .rem) rfl ?_; refine wl_ev rfl (ev_rem rfl rfl rfl) ?_) | (refine is_slice rfl ?_; refine wl_ev rfl (by first | exact c_ss rfl rfl | exact c_ssh rfl rfl rfl | exact c_ssl rfl rfl rfl | exact c_sslh rfl rfl rfl rfl | exact c_sa rfl rfl | exact c_sah rfl rfl rfl) ?_) | (refine is_build rfl ?_; refine wl_ev rfl (by first | exact c_sta rfl | exact c_stp rfl) ?_) | (refine is_indexAddr rfl ?_; refine wl_ev rfl (c_ix rfl rfl rfl) ?_)) <;> (simp only [nrm, ↓reduceIte, Nat.reduceAdd])) | (refine is_conv rfl ?_; first | fail | (refine wl_ev rfl (by first | exact c_cv rfl rfl | exact c_cv64 rfl rfl | exact c_cv32 rfl rfl | exact c_cv8 rfl rfl) ?_; (simp only [nrm, ↓reduceIte, Nat.reduceAdd]))) | ((first | (refine is_make rfl ?_; refine wl_rw rfl (fun K hK => c_mk H rfl rfl rfl (h := (fun g w1 hg hf H1 => hK _ _ ?_)))) | (refine is_buildSlice rfl ?_; first | (refine wl_rw rfl (fun K hK => c_s1t H rfl rfl rfl (h := (fun g w1 hg hf H1 => hK _ _ ?_)))) | (refine wl_rw rfl (fun K hK => c_s1c H rfl rfl (h := (fun g w1 hg hf H1 => hK _ _ ?_))))) | (refine is_alloc rfl ?_; refine wl_rw rfl (fun K hK => c_al H rfl (fun g w1 hg hf H1 => hK _ _ ?_))) | (refine is_box rfl ?_; first | (refine wl_rw rfl (fun K hK => la_boxN H rfl rfl (fun g w1 hg hf H1 => hK _ _ ?_))) | (refine wl_rw rfl (fun K hK => la_box1 H rfl rfl rfl (fun g w1 hg hf H1 => hK _ _ ?_)))) | (refine is_store rfl ?_; first | (refine wl_rw rfl (fun K hK => c_st H rfl rfl rfl (h := (fun w1 hf H1 => hK _ _ ?_)))) | (refine wl_rw rfl (fun K hK => c_stc H rfl rfl (h := (fun w1 hf H1 => hK _ _ ?_)))) | (refine wl_rw rfl (fun K hK => c_stn H rfl rfl rfl (h := (fun w1 hf H1 => hK _ _ ?_)))))); (clear hK K); (clear H; have H := H1; clear H1; (try dsimp only at H); (try clear hf)); (simp only [nrm, ↓reduceIte, Nat.reduceAdd])))
      clear hcell
      go_loopw [5, 6] (fun s5 s6 wr => ∃ (k : Nat) (SD' : List Nat), k ≤ cur.length - next ∧ s6 = .int .i64 ((next + k : Nat) : Int) ∧ s5 = .bool (clears cur pend next k).2.2 ∧ Hp SD w wr [.obj g S' (JAt g b recs next S'), .obj b SD' (DiskAt b (clears cur pend next k).1 dur (clears cur pend next k).2.1 SD')]) (fun _ v _ => cur.length - (intOf v).toNat)
      case atStart => exact ⟨0, _, Nat.zero_le _, rfl, rfl, H⟩
      case round =>
        clear H
        obtain ⟨m, SD', hm, rfl, rfl, H⟩ := hrel
        have Hm2 := hid hm
        have hsu := clears_succ cur pend next m
        obtain ⟨hcl1, hcl2⟩ := clears_len cur pend next m
        generalize hX : clears cur pend next m = X at H hsu hcl1 hcl2
        have HX := hid hX; clear hX
        have Hsu := hid hsu; clear hsu
        obtain ⟨ii, hii⟩ : ∃ ii, ii = next + m := ⟨_, rfl⟩
        rw [← hii]
        have Hii := hid hii
        have hiu : ii ≤ cur.length := by omega
        have him : m = cur.length - next ∨ ii < cur.length := by omega
        have Him := hid him
        have Hcl1 := hid hcl1
        have Hcl2 := hid hcl2
        clear hii him hcl1 hcl2
        go_wp2_with (first | ((first | (refine is_load rfl ?_; refine wl_ev rfl (by first | exact c_ld H rfl rfl | exact c_ld0 H rfl rfl | exact c_ldz H rfl rfl | exact c_ldr H rfl rfl | exact c_ln H rfl rfl | exact c_lnp H rfl rfl | exact c_lnz H rfl rfl | exact c_lnr H rfl rfl) ?_) | (refine is_cmp rfl rfl ?_; first | (refine wl_ev rfl (by first | exact c_seq rfl rfl | exact ev_cmpT rfl rfl rfl rfl | exact ev_cmpF rfl rfl rfl rfl | exact c_peq rfl rfl | exact c_pne rfl rfl | exact ev_strEq rfl rfl rfl | exact ev_strNe rfl rfl rfl) ?_) | (refine wl_cmp rfl rfl rfl rfl rfl (fun h => ?_) (fun h => ?_) <;> (simp only [cmpP] at h))) | (refine is_bin (op := .quo) rfl ?_; refine wl_ev rfl (ev_quo rfl rfl rfl) ?_) | (refine is_bin (op := .rem) rfl ?_; refine wl_ev rfl (ev_rem rfl rfl rfl) ?_) | (refine is_slice rfl ?_; refine wl_ev rfl (by first | exact c_ss rfl rfl | exact c_ssh rfl rfl rfl | exact c_ssl rfl rfl rfl | exact c_sslh rfl rfl rfl rfl | exact c_sa rfl rfl | exact c_sah rfl rfl rfl) ?_) | (refine is_build rfl ?_; refine wl_ev rfl (by first | exact c_sta rfl | exact c_stp rfl) ?_) | (refine is_indexAddr rfl ?_; refine wl_ev rfl (c_ix rfl rfl rfl) ?_)) <;> (simp only [nrm, ↓reduceIte, Nat.reduceAdd])) | (refine is_conv rfl ?_; first | fail | (refine wl_ev rfl (by first | exact c_cv rfl rfl | exact c_cv64 rfl rfl | exact c_cv32 rfl rfl | exact c_cv8 rfl rfl) ?_; (simp only [nrm, ↓reduceIte, Nat.reduceAdd]))) | ((first | (refine is_make rfl ?_; refine wl_rw rfl (fun K hK => c_mk H rfl rfl rfl (h := (fun g w1 hg hf H1 => hK _ _ ?_)))) | (refine is_buildSlice rfl ?_; first | (refine wl_rw rfl (fun K hK => c_s1t H rfl rfl rfl (h := (fun g w1 hg hf H1 => hK _ _ ?_)))) | (refine wl_rw rfl (fun K hK => c_s1c H rfl rfl (h := (fun g w1 hg hf H1 => hK _ _ ?_))))) | (refine is_alloc rfl ?_; refine wl_rw rfl (fun K hK => c_al H rfl (fun g w1 hg hf H1 => hK _ _ ?_))) | (refine is_box rfl ?_; first | (refine wl_rw rfl (fun K hK => la_boxN H rfl rfl (fun g w1 hg hf H1 => hK _ _ ?_))) | (refine wl_rw rfl (fun K hK => la_box1 H rfl rfl rfl (fun g w1 hg hf H1 => hK _ _ ?_)))) | (refine is_store rfl ?_; first | (refine wl_rw rfl (fun K hK => c_st H rfl rfl rfl (h := (fun w1 hf H1 => hK _ _ ?_)))) | (refine wl_rw rfl (fun K hK => c_stc H rfl rfl (h := (fun w1 hf H1 => hK _ _ ?_)))) | (refine wl_rw rfl (fun K hK => c_stn H rfl rfl rfl (h := (fun w1 hf H1 => hK _ _ ?_)))))); (clear hK K); (clear H; have H := H1; clear H1; (try dsimp only at H); (try clear hf)); (simp only [nrm, ↓reduceIte, Nat.reduceAdd])))
        (refine Calls.mono (blocks_any (H.disk b)) ?_; rintro e w1 ⟨rfl, hF⟩; have H1 := H.step hF (by simp); clear H; have H := H1; clear H1)
        rw [Hcl1.out]
        by_cases hin : ii < cur.length
        · go_wp2_with (first | ((first | (refine is_load rfl ?_; refine wl_ev rfl (by first | exact c_ld H rfl rfl | exact c_ld0 H rfl rfl | exact c_ldz H rfl rfl | exact c_ldr H rfl rfl | exact c_ln H rfl rfl | exact c_lnp H rfl rfl | exact c_lnz H rfl rfl | exact c_lnr H rfl rfl) ?_) | (refine is_cmp rfl rfl ?_; first | (refine wl_ev rfl (by first | exact c_seq rfl rfl | exact ev_cmpT rfl rfl rfl rfl | exact ev_cmpF rfl rfl rfl rfl | exact c_peq rfl rfl | exact c_pne rfl rfl | exact ev_strEq rfl rfl rfl | exact ev_strNe rfl rfl rfl) ?_) | (refine wl_cmp rfl rfl rfl rfl rfl (fun h => ?_) (fun h => ?_) <;> (simp only [cmpP] at h))) | (refine is_bin (op := .quo) rfl ?_; refine wl_ev rfl (ev_quo rfl rfl rfl) ?_) | (refine is_bin (op := .rem) rfl ?_; refine wl_ev rfl (ev_rem rfl rfl rfl) ?_) | (refine is_slice rfl ?_; refine wl_ev rfl (by first | exact c_ss rfl rfl | exact c_ssh rfl rfl rfl | exact c_ssl rfl rfl rfl | exact c_sslh rfl rfl rfl rfl | exact c_sa rfl rfl | exact c_sah rfl rfl rfl) ?_) | (refine is_build rfl ?_; refine wl_ev rfl (by first | exact c_sta rfl | exact c_stp rfl) ?_) | (refine is_indexAddr rfl ?_; refine wl_ev rfl (c_ix rfl rfl rfl) ?_)) <;> (simp only [nrm, ↓reduceIte, Nat.reduceAdd])) | (refine is_conv rfl ?_; first | fail | (refine wl_ev rfl (by first | exact c_cv rfl rfl | exact c_cv64 rfl rfl | exact c_cv32 rfl rfl | exact c_cv8 rfl rfl) ?_; (simp only [nrm, ↓reduceIte, Nat.reduceAdd]))) | ((first | (refine is_make rfl ?_; refine wl_rw rfl (fun K hK => c_mk H rfl rfl rfl (h := (fun g w1 hg hf H1 => hK _ _ ?_)))) | (refine is_buildSlice rfl ?_; first | (refine wl_rw rfl (fun K hK => c_s1t H rfl rfl rfl (h := (fun g w1 hg hf H1 => hK _ _ ?_)))) | (refine wl_rw rfl (fun K hK => c_s1c H rfl rfl (h := (fun g w1 hg hf H1 => hK _ _ ?_))))) | (refine is_alloc rfl ?_; refine wl_rw rfl (fun K hK => c_al H rfl (fun g w1 hg hf H1 => hK _ _ ?_))) | (refine is_box rfl ?_; first | (refine wl_rw rfl (fun K hK => la_boxN H rfl rfl (fun g w1 hg hf H1 => hK _ _ ?_))) | (refine wl_rw rfl (fun K hK => la_box1 H rfl rfl rfl (fun g w1 hg hf H1 => hK _ _ ?_)))) | (refine is_store rfl ?_; first | (refine wl_rw rfl (fun K hK => c_st H rfl rfl rfl (h := (fun w1 hf H1 => hK _ _ ?_)))) | (refine wl_rw rfl (fun K hK => c_stc H rfl rfl (h := (fun w1 hf H1 => hK _ _ ?_)))) | (refine wl_rw rfl (fun K hK => c_stn H rfl rfl rfl (h := (fun w1 hf H1 => hK _ _ ?_)))))); (clear hK K); (clear H; have H := H1; clear H1; (try dsimp only at H); (try clear hf)); (simp only [nrm, ↓reduceIte, Nat.reduceAdd])))
          (refine Calls.mono (read_all (H.disk b) ii) ?_; rintro e w1 ⟨v1, rfl, hF, hown⟩; obtain ⟨S3, H1⟩ := H.rowNew 1 hF hown; clear H hF hown; have H := H1; clear H1)
          rw [Hcl1.out, readE_in hin]
          obtain ⟨p1, c1, rfl, _⟩ := (H.rowo 1).form
          by_cases h0 : (readD X.1 ii).length = 0
          · have hclr : clr X ii = X := by unfold clr; rw [if_pos h0]
            have Hclr := hid hclr; clear hclr
            go_wp2_with (first | ((first | (refine is_load rfl ?_; refine wl_ev rfl (by first | exact c_ld H rfl rfl | exact c_ld0 H rfl rfl | exact c_ldz H rfl rfl | exact c_ldr H rfl rfl | exact c_ln H rfl rfl | exact c_lnp H rfl rfl | exact c_lnz H rfl rfl | exact c_lnr H rfl rfl) ?_) | (refine is_cmp rfl rfl ?_; first | (refine wl_ev rfl (by first | exact c_seq rfl rfl | exact ev_cmpT rfl rfl rfl rfl | exact ev_cmpF rfl rfl rfl rfl | exact c_peq rfl rfl | exact c_pne rfl rfl | exact ev_strEq rfl rfl rfl | exact ev_strNe rfl rfl rfl) ?_) | (refine wl_cmp rfl rfl rfl rfl rfl (fun h => ?_) (fun h => ?_) <;> (simp only [cmpP] at h))) | (refine is_bin (op := .quo) rfl ?_; refine wl_ev rfl (ev_quo rfl rfl rfl) ?_) | (refine is_bin (op := .rem) rfl ?_; refine wl_ev rfl (ev_rem rfl rfl rfl) ?_) | (refine is_slice rfl ?_; refine wl_ev rfl (by first | exact c_ss rfl rfl | exact c_ssh rfl rfl rfl | exact c_ssl rfl rfl rfl | exact c_sslh rfl rfl rfl rfl | exact c_sa rfl rfl | exact c_sah rfl rfl rfl) ?_) | (refine is_build rfl ?_; refine wl_ev rfl (by first | exact c_sta rfl | exact c_stp rfl) ?_) | (refine is_indexAddr rfl ?_; refine wl_ev rfl (c_ix rfl rfl rfl) ?_)) <;> (simp only [nrm, ↓reduceIte, Nat.reduceAdd])) | (refine is_conv rfl ?_; first | fail | (refine wl_ev rfl (by first | exact c_cv rfl rfl | exact c_cv64 rfl rfl | exact c_cv32 rfl rfl | exact c_cv8 rfl rfl) ?_; (simp only [nrm, ↓reduceIte, Nat.reduceAdd]))) | ((first | (refine is_make rfl ?_; refine wl_rw rfl (fun K hK => c_mk H rfl rfl rfl (h := (fun g w1 hg hf H1 => hK _ _ ?_)))) | (refine is_buildSlice rfl ?_; first | (refine wl_rw rfl (fun K hK => c_s1t H rfl rfl rfl (h := (fun g w1 hg hf H1 => hK _ _ ?_)))) | (refine wl_rw rfl (fun K hK => c_s1c H rfl rfl (h := (fun g w1 hg hf H1 => hK _ _ ?_))))) | (refine is_alloc rfl ?_; refine wl_rw rfl (fun K hK => c_al H rfl (fun g w1 hg hf H1 => hK _ _ ?_))) | (refine is_box rfl ?_; first | (refine wl_rw rfl (fun K hK => la_boxN H rfl rfl (fun g w1 hg hf H1 => hK _ _ ?_))) | (refine wl_rw rfl (fun K hK => la_box1 H rfl rfl rfl (fun g w1 hg hf H1 => hK _ _ ?_)))) | (refine is_store rfl ?_; first | (refine wl_rw rfl (fun K hK => c_st H rfl rfl rfl (h := (fun w1 hf H1 => hK _ _ ?_)))) | (refine wl_rw rfl (fun K hK => c_stc H rfl rfl (h := (fun w1 hf H1 => hK _ _ ?_)))) | (refine wl_rw rfl (fun K hK => c_stn H rfl rfl rfl (h := (fun w1 hf H1 => hK _ _ ?_)))))); (clear hK K); (clear H; have H := H1; clear H1; (try dsimp only at H); (try clear hf)); (simp only [nrm, ↓reduceIte, Nat.reduceAdd])))
            go_roundw
            case rel =>
              refine ⟨m + 1, SD', by have := Hii.out; have := Hm2.out; omega, by rw [Hii.out]; go_num, ?_, ?_⟩
              · rw [Hsu.out, ← Hii.out, Hclr.out]
              · rw [Hsu.out, ← Hii.out, Hclr.out]; exact H.sub (by repeat first | exact List.Sublist.refl _ | exact List.nil_sublist _ | apply List.Sublist.cons_cons | apply List.Sublist.cons)
            case measure => simp [intOf]; omega
          · have hclr : clr X ii = (X.1.set ii [], X.2.1 ++ [(ii, [])], true) := by unfold clr; rw [if_neg h0]
            have Hclr := hid hclr; clear hclr
            go_wp2_with (first | ((first | (refine is_load rfl ?_; refine wl_ev rfl (by first | exact c_ld H rfl rfl | exact c_ld0 H rfl rfl | exact c_ldz H rfl rfl | exact c_ldr H rfl rfl | exact c_ln H rfl rfl | exact c_lnp H rfl rfl | exact c_lnz H rfl rfl | exact c_lnr H rfl rfl) ?_) | (refine is_cmp rfl rfl ?_; first | (refine wl_ev rfl (by first | exact c_seq rfl rfl | exact ev_cmpT rfl rfl rfl rfl | exact ev_cmpF rfl rfl rfl rfl | exact c_peq rfl rfl | exact c_pne rfl rfl | exact ev_strEq rfl rfl rfl | exact ev_strNe rfl rfl rfl) ?_) | (refine wl_cmp rfl rfl rfl rfl rfl (fun h => ?_) (fun h => ?_) <;> (simp only [cmpP] at h))) | (refine is_bin (op := .quo) rfl ?_; refine wl_ev rfl (ev_quo rfl rfl rfl) ?_) | (refine is_bin (op := .rem) rfl ?_; refine wl_ev rfl (ev_rem rfl rfl rfl) ?_) | (refine is_slice rfl ?_; refine wl_ev rfl (by first | exact c_ss rfl rfl | exact c_ssh rfl rfl rfl | exact c_ssl rfl rfl rfl | exact c_sslh rfl rfl rfl rfl | exact c_sa rfl rfl | exact c_sah rfl rfl rfl) ?_) | (refine is_build rfl ?_; refine wl_ev rfl (by first | exact c_sta rfl | exact c_stp rfl) ?_) | (refine is_indexAddr rfl ?_; refine wl_ev rfl (c_ix rfl rfl rfl) ?_)) <;> (simp only [nrm, ↓reduceIte, Nat.reduceAdd])) | (refine is_conv rfl ?_; first | fail | (refine wl_ev rfl (by first | exact c_cv rfl rfl | exact c_cv64 rfl rfl | exact c_cv32 rfl rfl | exact c_cv8 rfl rfl) ?_; (simp only [nrm, ↓reduceIte, Nat.reduceAdd]))) | ((first | (refine is_make rfl ?_; refine wl_rw rfl (fun K hK => c_mk H rfl rfl rfl (h := (fun g w1 hg hf H1 => hK _ _ ?_)))) | (refine is_buildSlice rfl ?_; first | (refine wl_rw rfl (fun K hK => c_s1t H rfl rfl rfl (h := (fun g w1 hg hf H1 => hK _ _ ?_)))) | (refine wl_rw rfl (fun K hK => c_s1c H rfl rfl (h := (fun g w1 hg hf H1 => hK _ _ ?_))))) | (refine is_alloc rfl ?_; refine wl_rw rfl (fun K hK => c_al H rfl (fun g w1 hg hf H1 => hK _ _ ?_))) | (refine is_box rfl ?_; first | (refine wl_rw rfl (fun K hK => la_boxN H rfl rfl (fun g w1 hg hf H1 => hK _ _ ?_))) | (refine wl_rw rfl (fun K hK => la_box1 H rfl rfl rfl (fun g w1 hg hf H1 => hK _ _ ?_)))) | (refine is_store rfl ?_; first | (refine wl_rw rfl (fun K hK => c_st H rfl rfl rfl (h := (fun w1 hf H1 => hK _ _ ?_)))) | (refine wl_rw rfl (fun K hK => c_stc H rfl rfl (h := (fun w1 hf H1 => hK _ _ ?_)))) | (refine wl_rw rfl (fun K hK => c_stn H rfl rfl rfl (h := (fun w1 hf H1 => hK _ _ ?_)))))); (clear hK K); (clear H; have H := H1; clear H1; (try dsimp only at H); (try clear hf)); (simp only [nrm, ↓reduceIte, Nat.reduceAdd])))
            (refine Calls.mono (write_all (H.disk b) (by have := Hcl2.out; have := Hm2.out; omega) ii [] none 0 (fun _ _ => Rd.nil _ _ _)) ?_; rintro e w1 ⟨rfl, hF, S', D', hS'⟩; have H1 := H.upd (w' := w1) b hF D'.o hS'; clear H hF D' hS'; have H := H1; clear H1)
            rw [Hcl1.out, wrote_ok _ _ _ hin (by simp)] at H
            rw [Hcl1.out, wrote_ok _ _ _ hin (by simp)]
            go_wp2_with (first | ((first | (refine is_load rfl ?_; refine wl_ev rfl (by first | exact c_ld H rfl rfl | exact c_ld0 H rfl rfl | exact c_ldz H rfl rfl | exact c_ldr H rfl rfl | exact c_ln H rfl rfl | exact c_lnp H rfl rfl | exact c_lnz H rfl rfl | exact c_lnr H rfl rfl) ?_) | (refine is_cmp rfl rfl ?_; first | (refine wl_ev rfl (by first | exact c_seq rfl rfl | exact ev_cmpT rfl rfl rfl rfl | exact ev_cmpF rfl rfl rfl rfl | exact c_peq rfl rfl | exact c_pne rfl rfl | exact ev_strEq rfl rfl rfl | exact ev_strNe rfl rfl rfl) ?_) | (refine wl_cmp rfl rfl rfl rfl rfl (fun h => ?_) (fun h => ?_) <;> (simp only [cmpP] at h))) | (refine is_bin (op := .quo) rfl ?_; refine wl_ev rfl (ev_quo rfl rfl rfl) ?_) | (refine is_bin (op := .rem) rfl ?_; refine wl_ev rfl (ev_rem rfl rfl rfl) ?_) | (refine is_slice rfl ?_; refine wl_ev rfl (by first | exact c_ss rfl rfl | exact c_ssh rfl rfl rfl | exact c_ssl rfl rfl rfl | exact c_sslh rfl rfl rfl rfl | exact c_sa rfl rfl | exact c_sah rfl rfl rfl) ?_) | (refine is_build rfl ?_; refine wl_ev rfl (by first | exact c_sta rfl | exact c_stp rfl) ?_) | (refine is_indexAddr rfl ?_; refine wl_ev rfl (c_ix rfl rfl rfl) ?_)) <;> (simp only [nrm, ↓reduceIte, Nat.reduceAdd])) | (refine is_conv rfl ?_; first | fail | (refine wl_ev rfl (by first | exact c_cv rfl rfl | exact c_cv64 rfl rfl | exact c_cv32 rfl rfl | exact c_cv8 rfl rfl) ?_; (simp only [nrm, ↓reduceIte, Nat.reduceAdd]))) | ((first | (refine is_make rfl ?_; refine wl_rw rfl (fun K hK => c_mk H rfl rfl rfl (h := (fun g w1 hg hf H1 => hK _ _ ?_)))) | (refine is_buildSlice rfl ?_; first | (refine wl_rw rfl (fun K hK => c_s1t H rfl rfl rfl (h := (fun g w1 hg hf H1 => hK _ _ ?_)))) | (refine wl_rw rfl (fun K hK => c_s1c H rfl rfl (h := (fun g w1 hg hf H1 => hK _ _ ?_))))) | (refine is_alloc rfl ?_; refine wl_rw rfl (fun K hK => c_al H rfl (fun g w1 hg hf H1 => hK _ _ ?_))) | (refine is_box rfl ?_; first | (refine wl_rw rfl (fun K hK => la_boxN H rfl rfl (fun g w1 hg hf H1 => hK _ _ ?_))) | (refine wl_rw rfl (fun K hK => la_box1 H rfl rfl rfl (fun g w1 hg hf H1 => hK _ _ ?_)))) | (refine is_store rfl ?_; first | (refine wl_rw rfl (fun K hK => c_st H rfl rfl rfl (h := (fun w1 hf H1 => hK _ _ ?_)))) | (refine wl_rw rfl (fun K hK => c_stc H rfl rfl (h := (fun w1 hf H1 => hK _ _ ?_)))) | (refine wl_rw rfl (fun K hK => c_stn H rfl rfl rfl (h := (fun w1 hf H1 => hK _ _ ?_)))))); (clear hK K); (clear H; have H := H1; clear H1; (try dsimp only at H); (try clear hf)); (simp only [nrm, ↓reduceIte, Nat.reduceAdd])))
            go_roundw
            case rel =>
              have e := Hsu.out
              rw [← Hii.out, Hclr.out] at e
              refine ⟨m + 1, S', by have := Hii.out; have := Hm2.out; omega, by rw [Hii.out]; go_num, ?_, ?_⟩
              · rw [e]
              · rw [e]; exact H.sub (by repeat first | exact List.Sublist.refl _ | exact List.nil_sublist _ | apply List.Sublist.cons_cons | apply List.Sublist.cons)
            case measure => simp [intOf]; omega
        · have hmn : m = cur.length - next := Him.out.resolve_right hin
          have hoD : openD cur dur pend = if X.2.2 then (X.1, X.1, []) else (X.1, dur, X.2.1) := by
            unfold openD
            rw [Hopn.out]
            simp only
            rw [← hmn, HX.out]
          have HoD := hid hoD; clear hoD
          have hab := fun (H : Hp SD w w1 [.obj g S' (JAt g b recs next S'), .obj b SD' (DiskAt b X.1 dur X.2.1 SD')]) => H
          clear hab
          obtain ⟨X1, X2, X3⟩ := X
          cases X3
          · go_wp2_with (first | ((first | (refine is_load rfl ?_; refine wl_ev rfl (by first | exact c_ld H rfl rfl | exact c_ld0 H rfl rfl | exact c_ldz H rfl rfl | exact c_ldr H rfl rfl | exact c_ln H rfl rfl | exact c_lnp H rfl rfl | exact c_lnz H rfl rfl | exact c_lnr H rfl rfl) ?_) | (refine is_cmp rfl rfl ?_; first | (refine wl_ev rfl (by first | exact c_seq rfl rfl | exact ev_cmpT rfl rfl rfl rfl | exact ev_cmpF rfl rfl rfl rfl | exact c_peq rfl rfl | exact c_pne rfl rfl | exact ev_strEq rfl rfl rfl | exact ev_strNe rfl rfl rfl) ?_) | (refine wl_cmp rfl rfl rfl rfl rfl (fun h => ?_) (fun h => ?_) <;> (simp only [cmpP] at h))) | (refine is_bin (op := .quo) rfl ?_; refine wl_ev rfl (ev_quo rfl rfl rfl) ?_) | (refine is_bin (op := .rem) rfl ?_; refine wl_ev rfl (ev_rem rfl rfl rfl) ?_) | (refine is_slice rfl ?_; refine wl_ev rfl (by first | exact c_ss rfl rfl | exact c_ssh rfl rfl rfl | exact c_ssl rfl rfl rfl | exact c_sslh rfl rfl rfl rfl | exact c_sa rfl rfl | exact c_sah rfl rfl rfl) ?_) | (refine is_build rfl ?_; refine wl_ev rfl (by first | exact c_sta rfl | exact c_stp rfl) ?_) | (refine is_indexAddr rfl ?_; refine wl_ev rfl (c_ix rfl rfl rfl) ?_)) <;> (simp only [nrm, ↓reduceIte, Nat.reduceAdd])) | (refine is_conv rfl ?_; first | fail | (refine wl_ev rfl (by first | exact c_cv rfl rfl | exact c_cv64 rfl rfl | exact c_cv32 rfl rfl | exact c_cv8 rfl rfl) ?_; (simp only [nrm, ↓reduceIte, Nat.reduceAdd]))) | ((first | (refine is_make rfl ?_; refine wl_rw rfl (fun K hK => c_mk H rfl rfl rfl (h := (fun g w1 hg hf H1 => hK _ _ ?_)))) | (refine is_buildSlice rfl ?_; first | (refine wl_rw rfl (fun K hK => c_s1t H rfl rfl rfl (h := (fun g w1 hg hf H1 => hK _ _ ?_)))) | (refine wl_rw rfl (fun K hK => c_s1c H rfl rfl (h := (fun g w1 hg hf H1 => hK _ _ ?_))))) | (refine is_alloc rfl ?_; refine wl_rw rfl (fun K hK => c_al H rfl (fun g w1 hg hf H1 => hK _ _ ?_))) | (refine is_box rfl ?_; first | (refine wl_rw rfl (fun K hK => la_boxN H rfl rfl (fun g w1 hg hf H1 => hK _ _ ?_))) | (refine wl_rw rfl (fun K hK => la_box1 H rfl rfl rfl (fun g w1 hg hf H1 => hK _ _ ?_)))) | (refine is_store rfl ?_; first | (refine wl_rw rfl (fun K hK => c_st H rfl rfl rfl (h := (fun w1 hf H1 => hK _ _ ?_)))) | (refine wl_rw rfl (fun K hK => c_stc H rfl rfl (h := (fun w1 hf H1 => hK _ _ ?_)))) | (refine wl_rw rfl (fun K hK => c_stn H rfl rfl rfl (h := (fun w1 hf H1 => hK _ _ ?_)))))); (clear hK K); (clear H; have H := H1; clear H1; (try dsimp only at H); (try clear hf)); (simp only [nrm, ↓reduceIte, Nat.reduceAdd])))
            go_ret2
            refine ⟨g, rfl, H.fr, S', SD', ?_, ?_, H.home g, H.home b, H.apart2 b g (Ne.symm hgb)⟩
            · rw [Hopn.out]; exact H.jrn g
            · rw [HoD.out]; exact H.disk b
          · go_wp2_with (first | ((first | (refine is_load rfl ?_; refine wl_ev rfl (by first | exact c_ld H rfl rfl | exact c_ld0 H rfl rfl | exact c_ldz H rfl rfl | exact c_ldr H rfl rfl | exact c_ln H rfl rfl | exact c_lnp H rfl rfl | exact c_lnz H rfl rfl | exact c_lnr H rfl rfl) ?_) | (refine is_cmp rfl rfl ?_; first | (refine wl_ev rfl (by first | exact c_seq rfl rfl | exact ev_cmpT rfl rfl rfl rfl | exact ev_cmpF rfl rfl rfl rfl | exact c_peq rfl rfl | exact c_pne rfl rfl | exact ev_strEq rfl rfl rfl | exact ev_strNe rfl rfl rfl) ?_) | (refine wl_cmp rfl rfl rfl rfl rfl (fun h => ?_) (fun h => ?_) <;> (simp only [cmpP] at h))) | (refine is_bin (op := .quo) rfl ?_; refine wl_ev rfl (ev_quo rfl rfl rfl) ?_) | (refine is_bin (op := .rem) rfl ?_; refine wl_ev rfl (ev_rem rfl rfl rfl) ?_) | (refine is_slice rfl ?_; refine wl_ev rfl (by first | exact c_ss rfl rfl | exact c_ssh rfl rfl rfl | exact c_ssl rfl rfl rfl | exact c_sslh rfl rfl rfl rfl | exact c_sa rfl rfl | exact c_sah rfl rfl rfl) ?_) | (refine is_build rfl ?_; refine wl_ev rfl (by first | exact c_sta rfl | exact c_stp rfl) ?_) | (refine is_indexAddr rfl ?_; refine wl_ev rfl (c_ix rfl rfl rfl) ?_)) <;> (simp only [nrm, ↓reduceIte, Nat.reduceAdd])) | (refine is_conv rfl ?_; first | fail | (refine wl_ev rfl (by first | exact c_cv rfl rfl | exact c_cv64 rfl rfl | exact c_cv32 rfl rfl | exact c_cv8 rfl rfl) ?_; (simp only [nrm, ↓reduceIte, Nat.reduceAdd]))) | ((first | (refine is_make rfl ?_; refine wl_rw rfl (fun K hK => c_mk H rfl rfl rfl (h := (fun g w1 hg hf H1 => hK _ _ ?_)))) | (refine is_buildSlice rfl ?_; first | (refine wl_rw rfl (fun K hK => c_s1t H rfl rfl rfl (h := (fun g w1 hg hf H1 => hK _ _ ?_)))) | (refine wl_rw rfl (fun K hK => c_s1c H rfl rfl (h := (fun g w1 hg hf H1 => hK _ _ ?_))))) | (refine is_alloc rfl ?_; refine wl_rw rfl (fun K hK => c_al H rfl (fun g w1 hg hf H1 => hK _ _ ?_))) | (refine is_box rfl ?_; first | (refine wl_rw rfl (fun K hK => la_boxN H rfl rfl (fun g w1 hg hf H1 => hK _ _ ?_))) | (refine wl_rw rfl (fun K hK => la_box1 H rfl rfl rfl (fun g w1 hg hf H1 => hK _ _ ?_)))) | (refine is_store rfl ?_; first | (refine wl_rw rfl (fun K hK => c_st H rfl rfl rfl (h := (fun w1 hf H1 => hK _ _ ?_)))) | (refine wl_rw rfl (fun K hK => c_stc H rfl rfl (h := (fun w1 hf H1 => hK _ _ ?_)))) | (refine wl_rw rfl (fun K hK => c_stn H rfl rfl rfl (h := (fun w1 hf H1 => hK _ _ ?_)))))); (clear hK K); (clear H; have H := H1; clear H1; (try dsimp only at H); (try clear hf)); (simp only [nrm, ↓reduceIte, Nat.reduceAdd])))
            (refine Calls.mono (sync_any (H.disk b)) ?_; rintro e w1 ⟨rfl, hF, S', D', hS'⟩; have H1 := H.upd (w' := w1) b hF D'.o (fun x hx => .inl (hS' x hx)); clear H hF D' hS'; have H := H1; clear H1)
            go_wp2_with (first | ((first | (refine is_load rfl ?_; refine wl_ev rfl (by first | exact c_ld H rfl rfl | exact c_ld0 H rfl rfl | exact c_ldz H rfl rfl | exact c_ldr H rfl rfl | exact c_ln H rfl rfl | exact c_lnp H rfl rfl | exact c_lnz H rfl rfl | exact c_lnr H rfl rfl) ?_) | (refine is_cmp rfl rfl ?_; first | (refine wl_ev rfl (by first | exact c_seq rfl rfl | exact ev_cmpT rfl rfl rfl rfl | exact ev_cmpF rfl rfl rfl rfl | exact c_peq rfl rfl | exact c_pne rfl rfl | exact ev_strEq rfl rfl rfl | exact ev_strNe rfl rfl rfl) ?_) | (refine wl_cmp rfl rfl rfl rfl rfl (fun h => ?_) (fun h => ?_) <;> (simp only [cmpP] at h))) | (refine is_bin (op := .quo) rfl ?_; refine wl_ev rfl (ev_quo rfl rfl rfl) ?_) | (refine is_bin (op := .rem) rfl ?_; refine wl_ev rfl (ev_rem rfl rfl rfl) ?_) | (refine is_slice rfl ?_; refine wl_ev rfl (by first | exact c_ss rfl rfl | exact c_ssh rfl rfl rfl | exact c_ssl rfl rfl rfl | exact c_sslh rfl rfl rfl rfl | exact c_sa rfl rfl | exact c_sah rfl rfl rfl) ?_) | (refine is_build rfl ?_; refine wl_ev rfl (by first | exact c_sta rfl | exact c_stp rfl) ?_) | (refine is_indexAddr rfl ?_; refine wl_ev rfl (c_ix rfl rfl rfl) ?_)) <;> (simp only [nrm, ↓reduceIte, Nat.reduceAdd])) | (refine is_conv rfl ?_; first | fail | (refine wl_ev rfl (by first | exact c_cv rfl rfl | exact c_cv64 rfl rfl | exact c_cv32 rfl rfl | exact c_cv8 rfl rfl) ?_; (simp only [nrm, ↓reduceIte, Nat.reduceAdd]))) | ((first | (refine is_make rfl ?_; refine wl_rw rfl (fun K hK => c_mk H rfl rfl rfl (h := (fun g w1 hg hf H1 => hK _ _ ?_)))) | (refine is_buildSlice rfl ?_; first | (refine wl_rw rfl (fun K hK => c_s1t H rfl rfl rfl (h := (fun g w1 hg hf H1 => hK _ _ ?_)))) | (refine wl_rw rfl (fun K hK => c_s1c H rfl rfl (h := (fun g w1 hg hf H1 => hK _ _ ?_))))) | (refine is_alloc rfl ?_; refine wl_rw rfl (fun K hK => c_al H rfl (fun g w1 hg hf H1 => hK _ _ ?_))) | (refine is_box rfl ?_; first | (refine wl_rw rfl (fun K hK => la_boxN H rfl rfl (fun g w1 hg hf H1 => hK _ _ ?_))) | (refine wl_rw rfl (fun K hK => la_box1 H rfl rfl rfl (fun g w1 hg hf H1 => hK _ _ ?_)))) | (refine is_store rfl ?_; first | (refine wl_rw rfl (fun K hK => c_st H rfl rfl rfl (h := (fun w1 hf H1 => hK _ _ ?_)))) | (refine wl_rw rfl (fun K hK => c_stc H rfl rfl (h := (fun w1 hf H1 => hK _ _ ?_)))) | (refine wl_rw rfl (fun K hK => c_stn H rfl rfl rfl (h := (fun w1 hf H1 => hK _ _ ?_)))))); (clear hK K); (clear H; have H := H1; clear H1; (try dsimp only at H); (try clear hf)); (simp only [nrm, ↓reduceIte, Nat.reduceAdd])))
            go_ret2
            refine ⟨g, rfl, H.fr, _, S', ?_, ?_, H.home g, H.home b, H.apart2 b g (Ne.symm hgb)⟩
            · rw [Hopn.out]; exact H.jrn g
            · rw [HoD.out]; exact H.disk b
/-! ### Known objects in front -/
section
variable {T : List Nat} {w0 w w' : World} {l : List Ent}
theorem Hp.perm {l' : List Ent} (H : Hp T w0 w l) (h : List.Perm l l') : Hp T w0 w l' :=
  ⟨H.fr, fun e he => H.ok e (h.mem_iff.2 he), (h.flatMap_right _).nodup H.nodup⟩
/-- l holds the object k; l' is the rest. -/
class Dl (k : Nat) (S : outParam (List Nat)) (Q : outParam (World → Prop)) (l : List Ent) (l' : outParam (List Ent)) : Prop where
  h : List.Perm l (.obj k S Q :: l')
instance Dl.here {k : Nat} {S : List Nat} {Q : World → Prop} {l : List Ent} : Dl k S Q (.obj k S Q :: l) l := ⟨List.Perm.refl _⟩
instance (priority := low) Dl.there {k : Nat} {S : List Nat} {Q : World → Prop} {l l' : List Ent} {e : Ent} [h : Dl k S Q l l'] : Dl k S Q (e :: l) (e :: l') := ⟨(h.h.cons e).trans (List.Perm.swap _ _ _)⟩
theorem Hp.pull (H : Hp T w0 w l) (k : Nat) {S : List Nat} {Q : World → Prop} {l' : List Ent} [d : Dl k S Q l l'] : Hp T w0 w (.obj k S Q :: l') := H.perm d.h
/-- A step that changes the entries in front. -/
theorem Hp.front {lo : List Ent} (H : Hp T w0 w (lo ++ l)) (hF : Fr (lo.flatMap Ent.own) w w') (ln : List Ent) (hok : ∀ e ∈ ln, e.ok T w0 w') (hnd : (ln.flatMap Ent.own).Nodup) (hfr : ∀ x ∈ ln.flatMap Ent.own, x ∈ lo.flatMap Ent.own ∨ w.heap.size ≤ x) : Hp T w0 w' (ln ++ l) := by
  have hn := H.nodup
  rw [List.flatMap_append] at hn
  have hn' := List.nodup_append.1 hn
  refine ⟨H.fr.andThen hF (fun x hx => ?_), fun e he => ?_, ?_⟩
  · obtain ⟨e, he, hx⟩ := List.mem_flatMap.1 hx
    exact Ent.home (H.ok e (List.mem_append_left _ he)) x hx
  · rcases List.mem_append.1 he with he | he
    · exact hok e he
    · exact Ent.stay (H.ok e (List.mem_append_right _ he)) hF (fun x hx hm => hn'.2.2 x hm x (List.mem_flatMap.2 ⟨e, he, hx⟩) rfl)
  · rw [List.flatMap_append]
    refine List.nodup_append.2 ⟨hnd, hn'.2.1, fun x hx y hy e => ?_⟩
    subst e
    rcases hfr x hx with h | h
    · exact hn'.2.2 x h x hy rfl
    · have := H.ownLt x (by rw [List.flatMap_append]; exact List.mem_append_right _ hy)
      omega
/-- Two objects change. -/
theorem Hp.upd2 {k1 k2 : Nat} {S1 S2 S1' S2' : List Nat} {Q1 Q2 Q1' Q2' : World → Prop} (H : Hp T w0 w (.obj k1 S1 Q1 :: .obj k2 S2 Q2 :: l)) (hF : Fr (S1 ++ S2) w w') (h1 : Q1' w') (h2 : Q2' w') (f1 : ∀ x ∈ S1', x ∈ S1 ++ S2 ∨ w.heap.size ≤ x) (f2 : ∀ x ∈ S2', x ∈ S1 ++ S2 ∨ w.heap.size ≤ x) (hd : ∀ x ∈ S1', x ∉ S2') [m1 : Fm S1' Q1'] [m2 : Fm S2' Q2'] : Hp T w0 w' (.obj k1 S1' Q1' :: .obj k2 S2' Q2' :: l) := by
  have hh : ∀ x ∈ S1 ++ S2, x ∈ T ∨ w0.heap.size ≤ x := fun x hx => (List.mem_append.1 hx).elim ((H.ok _ (.head _)).2.2 x) ((H.ok _ (.tail _ (.head _))).2.2 x)
  have up : ∀ {S' : List Nat}, (∀ x ∈ S', x ∈ S1 ++ S2 ∨ w.heap.size ≤ x) → ∀ x ∈ S', x ∈ T ∨ w0.heap.size ≤ x := fun h x hx => (h x hx).elim (hh x) (fun h => .inr (Nat.le_trans H.fr.size h))
  refine Hp.front (lo := [.obj k1 S1 Q1, .obj k2 S2 Q2]) H (by simpa [Ent.own] using hF) [.obj k1 S1' Q1', .obj k2 S2' Q2'] (fun e he => ?_) ?_ ?_
  · simp only [List.mem_cons, List.not_mem_nil, or_false] at he
    rcases he with rfl | rfl
    · exact ⟨h1, m1.h, up f1⟩
    · exact ⟨h2, m2.h, up f2⟩
  · simp only [List.flatMap_cons, List.flatMap_nil, Ent.own, List.append_nil]
    exact List.nodup_append.2 ⟨m1.h.nd _ h1, m2.h.nd _ h2, fun x hx y hy e => hd x hx (e ▸ hy)⟩
  · simp only [List.flatMap_cons, List.flatMap_nil, Ent.own, List.append_nil]
    exact fun x hx => (List.mem_append.1 hx).elim (f1 x) (f2 x)
/-- One object changes, and another is born. -/
theorem Hp.updNew {k1 k2 : Nat} {S S1' S2' : List Nat} {Q Q1' Q2' : World → Prop} (H : Hp T w0 w (.obj k2 S Q :: l)) (hF : Fr S w w') (h1 : Q1' w') (h2 : Q2' w') (f1 : ∀ x ∈ S1', x ∈ S ∨ w.heap.size ≤ x) (f2 : ∀ x ∈ S2', x ∈ S ∨ w.heap.size ≤ x) (hd : ∀ x ∈ S1', x ∉ S2') [m1 : Fm S1' Q1'] [m2 : Fm S2' Q2'] : Hp T w0 w' (.obj k1 S1' Q1' :: .obj k2 S2' Q2' :: l) := by
  have hh := (H.ok _ (.head _)).2.2
  have up : ∀ {S' : List Nat}, (∀ x ∈ S', x ∈ S ∨ w.heap.size ≤ x) → ∀ x ∈ S', x ∈ T ∨ w0.heap.size ≤ x := fun h x hx => (h x hx).elim (hh x) (fun h => .inr (Nat.le_trans H.fr.size h))
  refine Hp.front (lo := [.obj k2 S Q]) H (by simpa [Ent.own] using hF) [.obj k1 S1' Q1', .obj k2 S2' Q2'] (fun e he => ?_) ?_ ?_
  · simp only [List.mem_cons, List.not_mem_nil, or_false] at he
    rcases he with rfl | rfl
    · exact ⟨h1, m1.h, up f1⟩
    · exact ⟨h2, m2.h, up f2⟩
  · simp only [List.flatMap_cons, List.flatMap_nil, Ent.own, List.append_nil]
    exact List.nodup_append.2 ⟨m1.h.nd _ h1, m2.h.nd _ h2, fun x hx y hy e => hd x hx (e ▸ hy)⟩
  · simp only [List.flatMap_cons, List.flatMap_nil, Ent.own, List.append_nil]
    exact fun x hx => (List.mem_append.1 hx).elim (f1 x) (f2 x)
end
end Go.Proofs.Ytgnpgikbdomdpaa
