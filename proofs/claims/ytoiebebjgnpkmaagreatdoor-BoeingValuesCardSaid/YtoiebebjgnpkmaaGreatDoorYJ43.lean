import Derived.RangeFuncBox
import Derived.RangeFuncLeaves
import Derived.RangeFuncFrom
import Derived.RangeFuncBound
import Derived.RangeFuncCalls
import Derived.Shelf.Abstract
import Derived.Shelf.RegionOpen
import Derived.WalkKit
import Derived.OwnWalkIn
import Derived.TacticsInMore
import Derived.LoopNIn
import Derived.LoopIn
import Derived.Test.YtoiebebjgnpkmaaGreatDoorProg
namespace Go.Proofs.YtoiebebjgnpkmaaGreatDoor
open Go.RowKit Go.Shelf
set_option linter.unusedSimpArgs false
set_option linter.unusedVariables false
attribute [local go_sem] Oper.semAt_some
set_option maxRecDepth 100000 in
set_option maxHeartbeats 2000000 in
theorem chunk1_in (F:Fence) (n:Nat) (hf:F.fn 95) (hro:F.round=none) (hn:1≤n) (l Bs Bn b off len cap:Nat) (m:Int) (hl:1≤len) (hlm:(len:Int)≤m) (hm:m≤999) (hcap:len≤cap) {Kp:World→World→Prop} (hKp:∀ A B,Kp A B→B.cell? ⟨Bs,0,none⟩=A.cell? ⟨Bs,0,none⟩∧B.cell? ⟨Bn,0,none⟩=A.cell? ⟨Bn,0,none⟩) (J Jx:List Unit→World→Prop) (hJd:∀ xs W,J xs W→J xs W.drew)
 (hY:∀ pre x W,J pre W→pre.length<1→YieldAt F (n - 1) Tryz.prog l #[.slice (some ⟨b,off,none⟩) len len] W fun e W'=>
  (e= .returned (.bool true)∧J (pre++[x]) W'∧Kp W W')∨(e= .returned (.bool false)∧Jx (pre++[x]) W'))
 (W:World) (hBs:W.cell? ⟨Bs,0,none⟩=some (.slice (some ⟨b,off,none⟩) len cap)) (hBn:W.cell? ⟨Bn,0,none⟩=some (.int .i64 m)) (h0:J [] W):
 CallsIn F n Tryz.prog 95 #[.func (.yield l) #[] #[], .pointer (some ⟨Bs,0,none⟩), .pointer (some ⟨Bn,0,none⟩)] W fun e W'=>(∃ v,e= .returned v)∧
  ((∃ ys,ys=[()]∧J ys W')∨(∃ pre,pre<+:[()]∧Jx pre W')):=by
 refine callsIn_of_wp Tryz.func95 rfl hf ?_ hro
 simp only [Tryz.ntmps95,List.size_toArray,List.length_cons,List.length_nil,Nat.reduceAdd,Nat.reduceSub,Array.replicate_succ,Array.replicate_zero,List.push_toArray,List.append_toArray,List.nil_append,List.cons_append]
 gi_wp2
 gi_loopw [4] (fun i wr=>(i= .int .i64 0∧wr=W)∨(i= .int .i64 m∧J [()] wr∧wr.cell? ⟨Bs,0,none⟩=some (.slice (some ⟨b,off,none⟩) len cap))) (fun i _ =>1 - (intOf i).toNat)
 case atStart=>exact .inl ⟨rfl,rfl⟩
 case round=>
  rcases hrel with ⟨rfl,rfl⟩ | ⟨rfl,hJ,hBs'⟩
  ·obtain ⟨fn,tmps,assign,body,hy,hR⟩:=hY [] () wr.drew (hJd _ _ h0) (by decide)
   have hsd:wr.drew.cell? ⟨Bs,0,none⟩=some (.slice (some ⟨b,off,none⟩) len cap):=hBs
   have hbd:wr.drew.cell? ⟨Bn,0,none⟩=some (.int .i64 m):=hBn
   gi_wp2
   have hmin:(if (len:Int)<m then (len:Int) else m)=len:=by split<;>omega
   refine wpIn_mono (Q:=fun e a w=>e= .normal∧a={tmps:=#[.func (.yield l) #[] #[], .pointer (some ⟨Bs,0,none⟩), .pointer (some ⟨Bn,0,none⟩),undef, .int .i64 0, .int .i64 len, .int .i64 0, .slice (some ⟨b,off,none⟩) len cap, .int .i64 len, .bool true,u10,u11,u12, .int .i64 m, .slice (some ⟨b,off,none⟩) len cap, .int .i64 0, .slice (some ⟨b,off,none⟩) len cap, .int .i64 len, .int .i64 len,u19,u20,u21,u22,u23,u24,u25,u26,u27,u28,u29,u30],defers:=[]}∧w=wr.drew) ?_ ?_
   ·gi_region
    all_goals exact ⟨rfl,rfl,rfl⟩
   rintro e1 a1 w1 ⟨rfl,rfl,rfl⟩
   gi_wp2
   refine hR.mono ?_
   rintro e W3 (⟨rfl,hJ3,hk3⟩ | ⟨rfl,hJx3⟩)
   ·have hs3:=(hKp _ _ hk3).1.trans hsd
    have hb3:=(hKp _ _ hk3).2.trans hbd
    gi_wp2
    go_roundw
    case rel=>exact .inr ⟨by simp,hJ3,hs3⟩
    case measure=>simp [intOf];omega
   ·gi_wp2
    refine bodyPost_ret (results_none rfl _ _ _) rfl ?_
    exact ⟨⟨_,rfl⟩, .inr ⟨_,List.prefix_rfl,hJx3⟩⟩
  ·gi_wp2
   go_end0
   exact ⟨⟨_,rfl⟩, .inl ⟨_,rfl,hJ⟩⟩
theorem chunk_stops (F:Fence) (n:Nat) (hf:F.fn 95) (hro:F.round=none) (hn:1≤n) (Bs Bn b off len cap:Nat) (m:Int) (hl:1≤len) (hlm:(len:Int)≤m) (hm:m≤999) (hcap:len≤cap) {Kp:World→World→Prop} (hKp:∀ A B,Kp A B→B.cell? ⟨Bs,0,none⟩=A.cell? ⟨Bs,0,none⟩∧B.cell? ⟨Bn,0,none⟩=A.cell? ⟨Bn,0,none⟩) (w:World) (hs:Bs<w.heap.size) (hb:Bn<w.heap.size)
 (hBs:w.cell? ⟨Bs,0,none⟩=some (.slice (some ⟨b,off,none⟩) len cap)) (hBn:w.cell? ⟨Bn,0,none⟩=some (.int .i64 m)):
 SeqStopsK F n Tryz.prog 95 #[.pointer (some ⟨Bs,0,none⟩), .pointer (some ⟨Bn,0,none⟩)] (fun _ :Unit=>#[Value.slice (some ⟨b,off,none⟩) len len]) Kp (fun ys=>ys=[()]) (fun pre=>pre<+:[()]) 1 w:=fun l J Jx W hW hJ hJx hY h0=>
 chunk1_in F n hf hro hn l Bs Bn b off len cap m hl hlm hm hcap hKp J Jx (fun xs W h=>hJ xs W W.drew none h ⟨rfl,rfl,rfl,(Below.refl 0 W).drew.size,fun k _ _ =>rfl⟩ (fun r e=>by cases e)) hY W
  ((hW.cell (p:=⟨Bs,0,none⟩) hs).trans hBs) ((hW.cell (p:=⟨Bn,0,none⟩) hb).trans hBn) h0
set_option maxRecDepth 100000 in
set_option maxHeartbeats 1000000 in
theorem chunk_in (F:Fence) (n:Nat) (hf:F.fn 49) (hro:F.round=none) (a:Option Addr) (len cap:Nat) (m:Int) (hm:1≤m) (w:World):
 CallsIn F n Tryz.prog 49 #[.slice a len cap, .int .i64 m] w fun e w'=>e= .returned (.func (.func 95) #[] #[.pointer (some ⟨w.heap.size,0,none⟩), .pointer (some ⟨w.heap.size+1,0,none⟩)])∧w'=(w.alloc (.cells #[.slice a len cap] 44)).alloc (.cells #[.int .i64 m] 3):=by
 refine callsIn_of_wp Tryz.func49 rfl hf ?_ hro
 simp only [Tryz.ntmps49,List.size_toArray,List.length_cons,List.length_nil,Nat.reduceAdd,Nat.reduceSub,Array.replicate_succ,Array.replicate_zero,List.push_toArray,List.append_toArray,List.nil_append,List.cons_append]
 have h1:¬ m<1:=by omega
 gi_wp2
 go_ret
 exact ⟨rfl,rfl⟩
end Go.Proofs.YtoiebebjgnpkmaaGreatDoor
