/-
  The journal's plain law: what Open finds behind a crash is a prefix of the records with all that were flushed.
-/
import Derived.Test.YtgnpgikbdomdpaaRj9
namespace Go.Proofs.Ytgnpgikbdomdpaa
open Go.RowKit
set_option linter.unusedSimpArgs false
set_option linter.unusedVariables false
/-- Block i, or nothing. -/
def blk (C : List (List UInt8)) (i : Nat) : List UInt8 := C[i]?.getD []
theorem readD_blk (C : List (List UInt8)) (i : Nat) : readD C (i : Int) = blk C i := by
  unfold readD blk; rw [if_neg (by omega), Int.toNat_natCast]
theorem blk_set (C : List (List UInt8)) (i j : Nat) (s : List UInt8) (h : i < C.length) : blk (C.set i s) j = if j = i then s else blk C j := by
  unfold blk
  rw [List.getElem?_set]
  split
  · rename_i e; subst e; simp [h]
  · rename_i e; rw [if_neg (fun k => e k.symm)]
theorem blk_out (C : List (List UInt8)) (i : Nat) (h : C.length ≤ i) : blk C i = [] := by unfold blk; rw [List.getElem?_eq_none h]; rfl
theorem blk_left (A B : List (List UInt8)) (i : Nat) (h : i < A.length) : blk (A ++ B) i = blk A i := by unfold blk; rw [List.getElem?_append_left h]
theorem blk_right (A B : List (List UInt8)) (i : Nat) : blk (A ++ B) (A.length + i) = blk B i := by unfold blk; rw [List.getElem?_append_right (by omega), Nat.add_sub_cancel_left]
/-- The blocks of record r. -/
def encR (r : Nat) (d : List UInt8) : List (List UInt8) := (List.range (partsOf d.length)).map fun t => blockP r (partsOf d.length) d t
theorem encR_len (r : Nat) (d : List UInt8) : (encR r d).length = partsOf d.length := by simp [encR]
theorem encR_at (r : Nat) (d : List UInt8) (t : Nat) (h : t < partsOf d.length) : blk (encR r d) t = blockP r (partsOf d.length) d t := by simp [blk, encR, h]
/-- The blocks of the records r, r + 1 .. -/
def encF (r : Nat) : List (List UInt8) → List (List UInt8)
  | [] => []
  | d :: ds => encR r d ++ encF (r + 1) ds
theorem encF_append : ∀ (a b : List (List UInt8)) (r : Nat), encF r (a ++ b) = encF r a ++ encF (r + a.length) b
  | [], b, r => by simp [encF]
  | d :: a, b, r => by simp only [List.cons_append, encF, List.length_cons]; rw [encF_append a b (r + 1), List.append_assoc, show r + 1 + a.length = r + (a.length + 1) by omega]
theorem encF_snoc (a : List (List UInt8)) (d : List UInt8) : encF 0 (a ++ [d]) = encF 0 a ++ encR a.length d := by rw [encF_append]; simp [encF]
/-- Where record m begins. -/
def pos (recs : List (List UInt8)) (m : Nat) : Nat := (encF 0 (recs.take m)).length
theorem take_snoc {recs : List (List UInt8)} {m : Nat} {d : List UInt8} (h : recs[m]? = some d) : recs.take (m + 1) = recs.take m ++ [d] := by
  rw [List.take_add_one, h]; rfl
theorem pos_succ {recs : List (List UInt8)} {m : Nat} {d : List UInt8} (h : recs[m]? = some d) : pos recs (m + 1) = pos recs m + partsOf d.length := by
  unfold pos; rw [take_snoc h, encF_snoc, List.length_append, encR_len]
theorem enc_split (recs : List (List UInt8)) (m : Nat) : encF 0 recs = encF 0 (recs.take m) ++ encF (recs.take m).length (recs.drop m) := by
  have h := encF_append (recs.take m) (recs.drop m) 0
  rwa [List.take_append_drop, Nat.zero_add] at h
theorem enc_low (recs : List (List UInt8)) (m i : Nat) (h : i < pos recs m) : blk (encF 0 recs) i = blk (encF 0 (recs.take m)) i := by
  rw [enc_split recs m]; exact blk_left _ _ _ h
theorem enc_at {recs : List (List UInt8)} {m : Nat} {d : List UInt8} (h : recs[m]? = some d) (t : Nat) (ht : t < partsOf d.length) : blk (encF 0 recs) (pos recs m + t) = blockP m (partsOf d.length) d t := by
  have hm := (List.getElem?_eq_some_iff.1 h).1
  have hp := pos_succ h
  rw [enc_low recs (m + 1) _ (by omega), take_snoc h, encF_snoc]
  unfold pos
  rw [blk_right, List.length_take, Nat.min_eq_left (by omega)]
  exact encR_at m d t ht
theorem pos_le (recs : List (List UInt8)) (m : Nat) : pos recs m ≤ (encF 0 recs).length := by
  rw [enc_split recs m, List.length_append]; unfold pos; omega
theorem pos_all (recs : List (List UInt8)) (m : Nat) (h : recs.length ≤ m) : pos recs m = (encF 0 recs).length := by unfold pos; rw [List.take_of_length_le h]
theorem encF_count : ∀ (recs : List (List UInt8)) (r : Nat), recs.length ≤ (encF r recs).length
  | [], r => by simp [encF]
  | d :: ds, r => by
    have h := encF_count ds (r + 1)
    have := partsOf_pos d.length
    simp only [encF, List.length_cons, List.length_append, encR_len]; omega
theorem byteOf_nat (n : Nat) : (byteOf n).toNat = n % 256 := by unfold byteOf; rw [UInt8.toNat_ofNat']
theorem partsIn_block (r p : Nat) (d : List UInt8) (t : Nat) (hp : p < 65536) : partsIn (blockP r p d t) = p := by
  unfold partsIn blockP hdr
  simp only [List.cons_append, List.getD_cons_succ, List.getD_cons_zero, byteOf_nat]
  omega
theorem blockP_len2 (r p : Nat) (d : List UInt8) (t : Nat) : (blockP r p d t).length = 8 + (pieceP d t).length := by unfold blockP; rw [List.length_append, hdr_len]
theorem partOk_block (r : Nat) (d : List UInt8) (t : Nat) (ht : t < partsOf d.length) : partOk (blockP r (partsOf d.length) d t) r t (partsOf d.length) = true := by
  unfold partOk
  rw [decide_eq_true_eq, blockP_len2, pieceP_len]
  refine ⟨by omega, ?_, ?_⟩
  · unfold blockP
    rw [List.take_append_of_le_length (by rw [hdr_len]; omega), List.take_of_length_le (by rw [hdr_len]; omega)]
  · unfold partsOf at ht ⊢; omega
theorem pieces_all (d : List UInt8) : ∀ t, ((List.range t).flatMap fun i => pieceP d i) = d.take (t * 56)
  | 0 => by simp
  | t + 1 => by
    rw [List.range_succ, List.flatMap_append, pieces_all d t]
    simp only [List.flatMap_cons, List.flatMap_nil, List.append_nil, pieceP]
    rw [show (t + 1) * 56 = t * 56 + 56 by omega, List.take_add]
theorem loadP_all {C : List (List UInt8)} {m at' : Nat} {d : List UInt8} (hd : d.length ≤ 1000000) (h : ∀ t, t < partsOf d.length → blk C (at' + t) = blockP m (partsOf d.length) d t) (hl : at' + partsOf d.length ≤ C.length) : loadP C m at' = some (d, partsOf d.length) := by
  have hp1 := partsOf_pos d.length
  have hp2 : partsOf d.length < 65536 := by unfold partsOf; omega
  have h0 : readD C (at' : Nat) = blockP m (partsOf d.length) d 0 := by rw [readD_blk]; exact h 0 (by omega)
  have hpi := partsIn_block m (partsOf d.length) d 0 hp2
  unfold loadP
  rw [h0, hpi, if_pos ⟨by rw [blockP_len2]; omega, hp1, hl, fun t ht => by rw [readD_blk, h t ht]; exact partOk_block m d t ht⟩]
  have : dataP C at' (partsOf d.length) = d := by
    unfold dataP
    have e : ((List.range (partsOf d.length)).flatMap fun i => (readD C ((at' + i : Nat) : Int)).drop 8) = (List.range (partsOf d.length)).flatMap fun i => pieceP d i := by
      rw [List.flatMap_def, List.flatMap_def]
      congr 1
      refine List.map_congr_left fun t ht => ?_
      rw [readD_blk, h t (List.mem_range.1 ht)]
      unfold blockP
      rw [List.drop_append_of_le_length (by rw [hdr_len]; omega), List.drop_of_length_le (by rw [hdr_len]; omega), List.nil_append]
    rw [e, pieces_all, List.take_of_length_le (by unfold partsOf; omega)]
  rw [this]
theorem loadP_gap {C : List (List UInt8)} {m at' t : Nat} {d : List UInt8} (hd : d.length ≤ 1000000) (h : blk C at' = [] ∨ blk C at' = blockP m (partsOf d.length) d 0) (ht : t < partsOf d.length) (hg : blk C (at' + t) = []) : loadP C m at' = none := by
  have hp2 : partsOf d.length < 65536 := by unfold partsOf; omega
  unfold loadP
  rw [if_neg]
  rintro ⟨h1, h2, h3, h4⟩
  rw [readD_blk] at h1 h2 h3 h4
  rcases h with h | h
  · rw [h] at h1; simp at h1
  · rw [h, partsIn_block _ _ _ _ hp2] at h4
    have := h4 t ht
    rw [readD_blk, hg] at this
    simp [partOk] at this
theorem loadP_empty {C : List (List UInt8)} {m at' : Nat} (h : blk C at' = []) : loadP C m at' = none := by
  unfold loadP
  rw [if_neg]
  rintro ⟨h1, _⟩
  rw [readD_blk, h] at h1; simp at h1
/-- A disk whose blocks are those of the records; from block low on some may be lacking. -/
structure Thin (C : List (List UInt8)) (recs : List (List UInt8)) (low : Nat) : Prop where
  lo : ∀ i, i < low → blk C i = blk (encF 0 recs) i
  hi : ∀ i, blk C i = [] ∨ blk C i = blk (encF 0 recs) i
theorem openF_thin {C recs : List (List UInt8)} {safe : Nat} (hs : safe ≤ recs.length) (hd : ∀ d ∈ recs, d.length ≤ 1000000) (hl : (encF 0 recs).length ≤ C.length) (T : Thin C recs (pos recs safe)) :
    ∀ (k m : Nat), m ≤ recs.length → recs.length < m + k → (∀ i, i < pos recs m → blk C i = blk (encF 0 recs) i) → ∃ m', safe ≤ m' ∧ m' ≤ recs.length ∧ openF C k (recs.take m, pos recs m) = (recs.take m', pos recs m') ∧ ∀ i, i < pos recs m' → blk C i = blk (encF 0 recs) i
  | 0, m, h1, h2, _ => by omega
  | k + 1, m, h1, h2, h3 => by
    by_cases hm : m < recs.length
    · obtain ⟨d, hr⟩ : ∃ d, recs[m]? = some d := ⟨_, List.getElem?_eq_getElem hm⟩
      have hdl := hd d (List.mem_of_getElem? hr)
      have hps := pos_succ hr
      have hpl := pos_le recs (m + 1)
      have hlen : (recs.take m).length = m := by rw [List.length_take]; omega
      by_cases hall : ∀ t, t < partsOf d.length → blk C (pos recs m + t) = blk (encF 0 recs) (pos recs m + t)
      · have hld : loadP C (recs.take m).length (pos recs m) = some (d, partsOf d.length) := by
          rw [hlen]
          exact loadP_all hdl (fun t ht => by rw [hall t ht, enc_at hr t ht]) (by omega)
        obtain ⟨m', g1, g2, g3, g4⟩ := openF_thin hs hd hl T k (m + 1) (by omega) (by omega) (fun i hi => by
          by_cases hlt : i < pos recs m
          · exact h3 i hlt
          · have := hall (i - pos recs m) (by omega)
            rwa [show pos recs m + (i - pos recs m) = i by omega] at this)
        refine ⟨m', g1, g2, ?_, g4⟩
        rw [openF_some (x := (recs.take m, pos recs m)) hld]
        simp only
        rw [← take_snoc hr, ← hps]
        exact g3
      · have hex : ∃ t, t < partsOf d.length ∧ ¬ blk C (pos recs m + t) = blk (encF 0 recs) (pos recs m + t) := by
          apply Classical.byContradiction
          intro hno
          exact hall (fun t ht => Classical.byContradiction fun hne => hno ⟨t, ht, hne⟩)
        obtain ⟨t, ht, hne⟩ := hex
        have hg : blk C (pos recs m + t) = [] := (T.hi _).resolve_right hne
        have h0 : blk C (pos recs m) = [] ∨ blk C (pos recs m) = blockP m (partsOf d.length) d 0 := by
          have := enc_at hr 0 (by have := partsOf_pos d.length; omega)
          rw [Nat.add_zero] at this
          rw [← this]
          exact T.hi _
        have hld : loadP C (recs.take m).length (pos recs m) = none := by rw [hlen]; exact loadP_gap hdl h0 ht hg
        refine ⟨m, Classical.byContradiction fun hc => hne (T.lo _ ?_), h1, openF_none (x := (recs.take m, pos recs m)) hld, h3⟩
        have hmono : pos recs (m + 1) ≤ pos recs safe := by
          have e : recs.take (m + 1) = (recs.take safe).take (m + 1) := by rw [List.take_take, Nat.min_eq_left (by omega)]
          have := pos_le (recs.take safe) (m + 1)
          unfold pos at this ⊢
          rw [e]; exact this
        omega
    · obtain rfl : m = recs.length := by omega
      have hp := pos_all recs recs.length (Nat.le_refl _)
      have hb : blk C (pos recs recs.length) = [] := by
        rcases T.hi (pos recs recs.length) with h | h
        · exact h
        · rw [h]; exact blk_out _ _ (by omega)
      exact ⟨recs.length, hs, Nat.le_refl _, openF_none (x := (recs.take recs.length, pos recs recs.length)) (loadP_empty hb), h3⟩
theorem crashD_or (ks : List Bool) : ∀ (ps : List (Nat × List UInt8)) (k : Nat) (dur : List (List UInt8)) (i : Nat), (∀ x ∈ ps, x.1 < dur.length) → blk (crashD ks k ps dur) i = blk dur i ∨ ∃ s, (i, s) ∈ ps ∧ blk (crashD ks k ps dur) i = s
  | [], k, dur, i, _ => .inl rfl
  | x :: ps, k, dur, i, hx => by
    have hx1 := hx x (.head _)
    simp only [crashD]
    have ih := crashD_or ks ps (k + 1) (if ks[k]?.getD false then dur.set x.1 x.2 else dur) i (fun y hy => by have := hx y (.tail _ hy); split <;> simpa)
    rcases ih with h | ⟨s, h1, h2⟩
    · rw [h]
      split
      · rw [blk_set _ _ _ _ hx1]
        split
        · rename_i e; subst e; exact .inr ⟨x.2, .head _, rfl⟩
        · exact .inl rfl
      · exact .inl rfl
    · exact .inr ⟨s, .tail _ h1, h2⟩
theorem sync_writes (r p next : Nat) (d : List UInt8) (C : List (List UInt8)) : ∀ t, next + t ≤ C.length → ∀ i, blk (syncD (writesP r p next d t) C) i = if next ≤ i ∧ i < next + t then blockP r p d (i - next) else blk C i
  | 0, _, i => by rw [if_neg (by omega)]; rfl
  | t + 1, h, i => by
    rw [writesP_succ, syncD_snoc, blk_set _ _ _ _ (by rw [syncD_len]; simp only; omega), sync_writes r p next d C t (by omega) i]
    simp only
    by_cases h1 : i = next + t
    · subst h1
      rw [if_pos rfl, if_pos (by omega), Nat.add_sub_cancel_left]
    · rw [if_neg h1]
      by_cases h2 : next ≤ i ∧ i < next + t
      · rw [if_pos h2, if_pos (by omega)]
      · rw [if_neg h2, if_neg (by omega)]
theorem clears_blk (C : List (List UInt8)) (at' : Nat) : ∀ k, at' + k ≤ C.length → (∀ i, blk (clears C [] at' k).1 i = if at' ≤ i ∧ i < at' + k then [] else blk C i) ∧ ((clears C [] at' k).2.2 = false → (clears C [] at' k).2.1 = [] ∧ ∀ i, at' ≤ i → i < at' + k → blk C i = [])
  | 0, _ => ⟨fun i => by rw [if_neg (by omega)]; rfl, fun _ => ⟨rfl, fun i h1 h2 => by omega⟩⟩
  | k + 1, h => by
    obtain ⟨h1, h2⟩ := clears_blk C at' k (by omega)
    have hl := (clears_len C [] at' k).1
    have hat : blk (clears C [] at' k).1 (at' + k) = blk C (at' + k) := by rw [h1, if_neg (by omega)]
    rw [clears_succ]
    unfold clr
    rw [readD_blk, hat]
    split
    · rename_i h0
      have h0 := List.eq_nil_of_length_eq_zero h0
      refine ⟨fun i => ?_, fun hf => ⟨(h2 hf).1, fun i g1 g2 => ?_⟩⟩
      · rw [h1]
        by_cases hi : i = at' + k
        · subst hi; rw [if_neg (by omega), if_pos (by omega), h0]
        · by_cases hj : at' ≤ i ∧ i < at' + k
          · rw [if_pos hj, if_pos (by omega)]
          · rw [if_neg hj, if_neg (by omega)]
      · by_cases hi : i = at' + k
        · subst hi; exact h0
        · exact (h2 hf).2 i g1 (by omega)
    · refine ⟨fun i => ?_, fun hf => by cases hf⟩
      simp only
      rw [blk_set _ _ _ _ (by omega), h1]
      by_cases hi : i = at' + k
      · subst hi; rw [if_pos rfl, if_pos (by omega)]
      · rw [if_neg hi]
        by_cases hj : at' ≤ i ∧ i < at' + k
        · rw [if_pos hj, if_pos (by omega)]
        · rw [if_neg hj, if_neg (by omega)]
/-- What holds between the deeds: the disk of n blocks holds the records, the first safe ones for good. -/
structure PInv (n : Nat) (dur : List (List UInt8)) (pend : List (Nat × List UInt8)) (recs : List (List UInt8)) (next safe : Nat) : Prop where
  len : dur.length = n
  fit : (encF 0 recs).length = next
  le : next ≤ n
  cur : ∀ i, blk (syncD pend dur) i = blk (encF 0 recs) i
  sf : safe ≤ recs.length
  low : ∀ i, i < pos recs safe → blk dur i = blk (encF 0 recs) i
  high : ∀ i, pos recs safe ≤ i → blk dur i = []
  pe : ∀ x ∈ pend, x.2 = blk (encF 0 recs) x.1 ∧ x.1 < next
  small : ∀ d ∈ recs, d.length ≤ 1000000
theorem blk_rep (n i : Nat) : blk (List.replicate n ([] : List UInt8)) i = [] := by
  unfold blk; rw [List.getElem?_replicate]; split <;> rfl
theorem PInv.start (n : Nat) : PInv n (List.replicate n []) [] [] 0 0 :=
  ⟨List.length_replicate, rfl, Nat.zero_le _, fun i => by rw [show syncD [] (List.replicate n ([] : List UInt8)) = List.replicate n [] from rfl, blk_rep]; rfl, Nat.le_refl _, fun i h => by simp [pos, encF] at h, fun i _ => blk_rep n i, by simp, by simp⟩
theorem PInv.fits {n : Nat} {dur : List (List UInt8)} {pend : List (Nat × List UInt8)} {recs : List (List UInt8)} {next safe : Nat} (I : PInv n dur pend recs next safe) : Fit n (recs, next) :=
  ⟨I.le, by have := encF_count recs 0; rw [I.fit] at this; exact this, fun r hr => by have := I.small r hr; omega⟩
theorem PInv.flush {n : Nat} {dur : List (List UInt8)} {pend : List (Nat × List UInt8)} {recs : List (List UInt8)} {next safe : Nat} (I : PInv n dur pend recs next safe) : PInv n (syncD pend dur) [] recs next recs.length :=
  ⟨by rw [syncD_len]; exact I.len, I.fit, I.le, I.cur, Nat.le_refl _, fun i _ => I.cur i, fun i h => by rw [I.cur i]; exact blk_out _ _ (by rw [pos_all _ _ (Nat.le_refl _)] at h; exact h), by simp, I.small⟩
theorem PInv.append {n : Nat} {dur : List (List UInt8)} {pend : List (Nat × List UInt8)} {recs : List (List UInt8)} {next safe : Nat} (I : PInv n dur pend recs next safe) (d : List UInt8) (hd : d.length ≤ 1000000) (h : partsOf d.length ≤ n - next) :
    PInv n dur (pend ++ writesP recs.length (partsOf d.length) next d (partsOf d.length)) (recs ++ [d]) (next + partsOf d.length) safe := by
  have hE := encF_snoc recs d
  have hle := I.le
  have hfit := I.fit
  have hsf := I.sf
  have hpos : pos (recs ++ [d]) safe = pos recs safe := by unfold pos; rw [List.take_append_of_le_length I.sf]
  have hpl := pos_le recs safe
  have hold : ∀ i, i < next → blk (encF 0 (recs ++ [d])) i = blk (encF 0 recs) i := fun i hi => by rw [hE]; exact blk_left _ _ _ (by omega)
  have hnew : ∀ t, t < partsOf d.length → blk (encF 0 (recs ++ [d])) (next + t) = blockP recs.length (partsOf d.length) d t := fun t ht => by
    rw [hE, ← hfit, blk_right]; exact encR_at _ _ _ ht
  have hfit' : (encF 0 (recs ++ [d])).length = next + partsOf d.length := by rw [hE, List.length_append, encR_len, hfit]
  refine ⟨I.len, hfit', by have := partsOf_pos d.length; omega, fun i => ?_, by rw [List.length_append]; omega, fun i hi => ?_, fun i hi => I.high i (by rw [← hpos]; exact hi), fun x hx => ?_, fun r hr => ?_⟩
  · rw [syncD_append, sync_writes _ _ _ _ _ _ (by rw [syncD_len, I.len]; have := partsOf_pos d.length; omega)]
    split
    · rename_i hi
      have := hnew (i - next) (by omega)
      rw [show next + (i - next) = i by omega] at this
      exact this.symm
    · rename_i hi
      rw [I.cur i]
      by_cases hlt : i < next
      · exact (hold i hlt).symm
      · rw [blk_out _ _ (by omega), blk_out _ _ (by omega)]
  · rw [hpos] at hi
    rw [I.low i hi, hold i (by omega)]
  · rcases List.mem_append.1 hx with h1 | h1
    · have := I.pe x h1
      exact ⟨by rw [hold _ this.2]; exact this.1, by omega⟩
    · unfold writesP at h1
      obtain ⟨t, ht, rfl⟩ := List.mem_map.1 h1
      have ht := List.mem_range.1 ht
      exact ⟨(hnew t ht).symm, by simp only; omega⟩
  · rcases List.mem_append.1 hr with h1 | h1
    · exact I.small r h1
    · simp only [List.mem_singleton] at h1; subst h1; exact hd
theorem PInv.crash {n : Nat} {dur : List (List UInt8)} {pend : List (Nat × List UInt8)} {recs : List (List UInt8)} {next safe : Nat} (I : PInv n dur pend recs next safe) (ks : List Bool) :
    ∃ m, safe ≤ m ∧ m ≤ recs.length ∧ openR (crashD ks 0 pend dur) = (recs.take m, pos recs m) ∧ PInv n (openRD (crashD ks 0 pend dur) (crashD ks 0 pend dur) []).1 (openRD (crashD ks 0 pend dur) (crashD ks 0 pend dur) []).2 (recs.take m) (pos recs m) m := by
  have hcl : (crashD ks 0 pend dur).length = n := by rw [crashD_len]; exact I.len
  have hor := crashD_or ks pend 0 dur
  have hT : Thin (crashD ks 0 pend dur) recs (pos recs safe) := by
    have hidx : ∀ x ∈ pend, x.1 < dur.length := fun x hx => by have := (I.pe x hx).2; have := I.le; have := I.len; omega
    refine ⟨fun i hi => ?_, fun i => ?_⟩
    · rcases hor i hidx with h | ⟨s, h1, h2⟩
      · rw [h]; exact I.low i hi
      · rw [h2]; exact (I.pe _ h1).1
    · rcases hor i hidx with h | ⟨s, h1, h2⟩
      · rw [h]
        by_cases hi : i < pos recs safe
        · exact .inr (I.low i hi)
        · exact .inl (I.high i (by omega))
      · rw [h2]; exact .inr (I.pe _ h1).1
  generalize crashD ks 0 pend dur = C at hcl hT ⊢
  have hfit := I.fit
  have hle := I.le
  have hcnt := encF_count recs 0
  obtain ⟨m, h1, h2, h3, h4⟩ := openF_thin I.sf I.small (by omega) hT (C.length + 1) 0 (Nat.zero_le _) (by omega) (fun i hi => by simp [pos, encF] at hi)
  have hR : openR C = (recs.take m, pos recs m) := by unfold openR; rw [← h3]; rfl
  have hpm := pos_le recs m
  have htk : (recs.take m).take m = recs.take m := by rw [List.take_take, Nat.min_self]
  have hpt : pos (recs.take m) m = pos recs m := by unfold pos; rw [htk]
  refine ⟨m, h1, h2, hR, ?_⟩
  have hcb := clears_blk C (pos recs m) (C.length - pos recs m) (by omega)
  have hkey : ∀ D, D.length = n → (∀ i, blk D i = if pos recs m ≤ i ∧ i < pos recs m + (C.length - pos recs m) then [] else blk C i) → PInv n D [] (recs.take m) (pos recs m) m := fun D hl hb => by
    have hlo : ∀ i, i < pos recs m → blk D i = blk (encF 0 (recs.take m)) i := fun i hi => by
      rw [hb i, if_neg (by omega), h4 i hi, enc_low recs m i hi]
    have hhi : ∀ i, pos recs m ≤ i → blk D i = [] := fun i hi => by
      by_cases h : i < n
      · rw [hb i, if_pos (by omega)]
      · exact blk_out _ _ (by omega)
    refine ⟨hl, rfl, by omega, fun i => ?_, by rw [List.length_take]; omega, fun i hi => hlo i (by rw [← hpt]; exact hi), fun i hi => hhi i (by rw [← hpt]; exact hi), by simp, fun d hd => I.small d (List.mem_of_mem_take hd)⟩
    rw [show syncD [] D = D from rfl]
    by_cases hi : i < pos recs m
    · exact hlo i hi
    · rw [hhi i (by omega)]; exact (blk_out _ _ (by unfold pos at hi; omega)).symm
  unfold openRD
  rw [hR]
  simp only
  by_cases hf : (clears C [] (pos recs m) (C.length - pos recs m)).2.2 = true
  · rw [if_pos hf]
    exact hkey _ (by rw [(clears_len C [] (pos recs m) _).1]; exact hcl) hcb.1
  · rw [if_neg hf]
    have hf' : (clears C [] (pos recs m) (C.length - pos recs m)).2.2 = false := by simpa using hf
    obtain ⟨e1, e2⟩ := hcb.2 hf'
    rw [e1]
    refine hkey C hcl (fun i => ?_)
    split
    · rename_i hi; exact e2 i hi.1 hi.2
    · rfl
end Go.Proofs.Ytgnpgikbdomdpaa
