import Derived.Test.YtoiebebjgnpkmaaGreatDoorYJ44
import Derived.Test.YtoiebebjgnpkmaaGreatDoorYJ37
namespace Go.Proofs.YtoiebebjgnpkmaaGreatDoor
open Go.RowKit
set_option linter.unusedSimpArgs false
set_option linter.unusedVariables false
set_option maxHeartbeats 8000000
set_option maxRecDepth 100000
attribute [local irreducible] wpList Code.wp Plan.wp stsE mixE pre cntE
def EntR (w:World) (p:Option Addr) (E:List En):Prop:=∀ j u,(E.flatMap eC)[j]? =some u→∃ g,p=some ⟨g,0,none⟩∧w.cell? ⟨g,j,none⟩=some u
theorem EntR.of {w:World} {p:Option Addr} {E:List En} {n c:Nat} {S:List Nat} (h:RowAt 46 3 (.slice p n c) n (E.flatMap eC) S w):EntR w p E:=by
 intro j u hj
 have hn:0<n:=by
  rcases Nat.eq_zero_or_pos n with h0 | h0
  ·exfalso
   have:=h.1
   rw [h0,Nat.zero_mul] at this
   rw [List.eq_nil_of_length_eq_zero this] at hj
   simp at hj
  ·exact h0
 obtain ⟨g,c',he,_⟩:=h.some hn
 cases he
 exact ⟨g,rfl,h.cell hj⟩
theorem flat_get {E:List En} {k:Nat} {x:En} (hk:E[k]? =some x) (j:Nat) (hj:j<3):(E.flatMap eC)[k*3+j]? =(eC x)[j]? :=by
 obtain ⟨r,hr⟩:=pre_of hk
 have:((E.flatMap eC).drop (k*3))[j]? =(eC x)[j]? :=by rw [← hr,List.getElem?_append_left (by exact hj)]
 simpa using this
theorem EntR.some {w:World} {p:Option Addr} {E:List En} (h:EntR w p E) {k:Nat} {x:En} (hk:E[k]? =some x):∃ g,p=some ⟨g,0,none⟩:=by
 have:=flat_get hk 0 (by decide)
 obtain ⟨g,hg,_⟩:=h _ _ this
 exact ⟨g,hg⟩
theorem EntR.rd {w:World} {p:Option Addr} {E:List En} {c:Nat} (h:EntR w p E):Rd w (.slice p E.length c) E.length (E.flatMap eC):=by
 rcases E with _ | ⟨x,E⟩
 ·exact .inl ⟨rfl,rfl,p,c,rfl⟩
 ·obtain ⟨g,rfl⟩:=h.some (k:=0) (x:=x) rfl
  refine .inr ⟨_,c,rfl,fun j u hj=> ?_⟩
  obtain ⟨g',hg,hc⟩:=h j u hj
  cases hg
  rw [add_mk,Nat.zero_add]
  exact hc
theorem EntR.fr {w w':World} {p:Option Addr} {E:List En} (h:EntR w p E) (k:Fr [] w w'):EntR w' p E:=by
 intro j u hj
 obtain ⟨g,hg,hc⟩:=h j u hj
 exact ⟨g,hg,k.cell hc (by simp)⟩
def sliceLen:Value→Nat
 | .slice _ n _ =>n
 | _ =>0
theorem man_bl {b:Nat}:bl (sg (decide (9223372036854775808≤b)) (manF (b % 9223372036854775808))).natAbs≤64:=by
 rw [sg_abs]
 refine bl_le ?_
 have h:manF (b % 9223372036854775808)<9223372036854775808*2:=by
  unfold manF
  split<;>omega
 exact h
theorem exp_in {b:Nat}: -2000≤expoF (b % 9223372036854775808)∧expoF (b % 9223372036854775808)≤2000:=by
 have h:b % 9223372036854775808 / 4503599627370496<2048:=by omega
 unfold expoF
 split<;>omega
theorem fin_ne {b:Nat} (h:finF b=true):b / 4503599627370496 % 2048≠2047:=by
 unfold finF at h
 simpa using h
def MatF (rows cols:Nat) (st ix vl:List Nat) (w:World) (e:Ending) (w':World):Prop:=
 ∃ v1 v2 v3 B,e= .returned (.tuple #[.agg #[iV rows,iV cols,v1,v2,v3], .int .i64 0])∧Fr [] w w'∧Mat3 st ix vl v1 v2 v3 B w'∧∀ x∈B,w.heap.size≤x
end Go.Proofs.YtoiebebjgnpkmaaGreatDoor
