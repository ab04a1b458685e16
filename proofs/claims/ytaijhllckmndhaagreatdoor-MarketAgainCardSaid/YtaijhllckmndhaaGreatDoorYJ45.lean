import Derived.Test.YtaijhllckmndhaaGreatDoorYJ0
import Derived.Test.YtaijhllckmndhaaGreatDoorYJ38
import Derived.Test.YtaijhllckmndhaaGreatDoorYJ43
import Derived.Test.YtaijhllckmndhaaGreatDoorYJ44
namespace Go.Proofs.YtaijhllckmndhaaGreatDoor
set_option linter.all false
set_option maxHeartbeats 64000000
set_option maxRecDepth 100000
section
variable {w:World} {p:Option Addr} {E:List En} {n c k b:Nat} {x:En}
open Go.RowKit
attribute [local irreducible] wpList Code.wp Plan.wp zat zal pre zN
def EntR(w:World)(p:Option Addr)(E:List En):Prop:=∀j u,(E.flatMap eC)[j]? =some u→∃g,p=some ⟨g,0,none⟩∧w.cell? ⟨g,j,none⟩=some u
def EntR.of{S:List Nat}(h:RowAt 75 3 (.slice p n c) n (E.flatMap eC) S w):EntR w p E:=by
 intro j u hj
 have hn:0<n:=by
  rcases Nat.eq_zero_or_pos n with h0|h0
  ·exfalso
   have:=h.1
   rw[h0,Nat.zero_mul]at this;rw[List.eq_nil_of_length_eq_zero this]at hj
   simp at hj
  ·exact h0
 obtain⟨g,c',he,_⟩:=h.some hn
 cases he
 exact⟨g,rfl,h.cell hj⟩
def zbQ(hk:E[k]? =some x)(j:Nat)(hj:j<3):(E.flatMap eC)[k*3+j]? =(eC x)[j]? :=by
 obtain⟨r,hr⟩:=zdu hk
 have:((E.flatMap eC).drop (k*3))[j]? =(eC x)[j]? :=by rw[←hr,List.getElem?_append_left (by exact hj)]
 simpa using this
def EntR.some(h:EntR w p E)(hk:E[k]? =some x):∃g,p=some ⟨g,0,none⟩:=by
 have:=zbQ hk 0 yf
 obtain⟨g,hg,_⟩:=h _ _ this;exact⟨g,hg⟩
def EntR.rd(h:EntR w p E):Rd w (.slice p E.length c) E.length (E.flatMap eC):=by
 rcases E with _|⟨x,E⟩
 ·exact .inl ⟨rfl,rfl,p,c,rfl⟩
 ·obtain⟨g,rfl⟩:=h.some (k:=0) (x:=x) rfl;refine .inr ⟨_,c,rfl,fun j u hj=>?_⟩;obtain⟨g',hg,hc⟩:=h j u hj
  cases hg
  rw[zaL,Nat.zero_add];exact hc
def EntR.fr{w':World}(h:EntR w p E)(k:Fr [] w w'):EntR w' p E:=by
 intro j u hj;obtain⟨g,hg,hc⟩:=h j u hj;exact⟨g,hg,k.cell hc yg⟩
def zrg(w:World)(rows cols:Nat)(hc:cols≤200)(E E':List En)(hn:E.length=n)(hr:Rd w (.slice p E.length c) E.length (E.flatMap eC))(hE:n≤10000)(hE':∀S:List En,E.Perm S→S.Pairwise leE→S=E')(hcol:∀x∈E,x.2.1<cols):
 Calls Tryz.prog 190 #[.int .i64 (rows:Int), .int .i64 (cols:Int), .slice p n c] w (zrv rows cols ((List.range (cols+1)).map (pre E')) (E'.map (·.1)) (E'.map (·.2.2)) w):=by
 subst hn;exact zo8 w rows cols hc E E' hr hE hE' hcol
def zvL{P:Program}{a:Act}{o:Oper}{t:TypeId}{x:Operand}(ho:o.op= .load t x){g:Nat}(hx:a.eval x= .pointer (some ⟨g,k*3,none⟩))[s:Ro P t 3](h:EntR w (some ⟨g,0,none⟩) E){xr xc xv:Nat}(hk:E[k]? =some (xr,xc,xv)):(execOp a.eval o).run P w= .ok (.value (.agg #[.int .i64 (xr:Int), .int .i64 (xc:Int), .int .u64 (xv:Int)])) w:=by
 refine zdw (cs:=[.int .i64 (xr:Int), .int .i64 (xc:Int), .int .u64 (xv:Int)]) ho hx s.h fun j v hj=>?_
 have hj3:j<3:=(List.getElem?_eq_some_iff.1 hj).1;have e:=zbQ hk j hj3;obtain⟨g',hg,hc⟩:=h _ _ (e.trans hj)
 cases hg
 exact hc
def zcR:Value→Nat
 | .slice _ n _=>n
 | _=>0
def zjG:bl (sg (decide (9223372036854775808≤b)) (zA (b%9223372036854775808))).natAbs≤64:=by
 rw[za0];refine zbC ?_
 have h:zA (b%9223372036854775808)<9223372036854775808*2:=by
  unfold zA
  split<;>omega
 exact h
def zjZ: -2000≤zh (b%9223372036854775808)∧zh (b%9223372036854775808)≤2000:=by
 have h:b%9223372036854775808/4503599627370496<2048:=by omega
 unfold zh
 split<;>omega
def zt8(h:zS b=true):b/4503599627370496%2048≠2047:=by
 unfold zS at h
 simpa using h
def zve(rows cols:Nat)(st ix vl:List Nat)(w:World)(e:Ending)(w':World):Prop:=
 ∃v1 v2 v3 B,e= .returned (.tuple #[.agg #[iV rows,iV cols,v1,v2,v3], .int .i64 0])∧Fr [] w w'∧zfh st ix vl v1 v2 v3 B w'∧∀x∈B,w.heap.size≤x
def zpe{S:List En}(h:S.Pairwise ltE)(S':List En)(hp:S.Perm S')(hs:S'.Pairwise leE):S'=S:=
 zcc (ze6 hs (zfQ hp (h.imp fun k=>k.ap))) h fun x=>(hp.mem_iff).symm
def zg4(w:World)(rows cols:Nat)(hr2:rows≤200)(hc2:cols≤200){p:Option Addr}{c:Nat}(E:List En)(hE:E.length≤10000)(hok:okM rows cols E)(hR:EntR w p E)(hT:La w):
 Calls Tryz.prog 122 #[.int .i64 (rows:Int), .int .i64 (cols:Int), .slice p E.length c] w (zve rows cols ((List.range (cols+1)).map (pre (entP E rows cols))) ((entP E rows cols).map (·.1)) (((entP E rows cols).map clE).map (·.2.2)) w):=by
 have HR:=hid hR;have HT:=hid hT;have HOK:=hid hok.2;have HAP:=hid hok.1;clear hR hT hok;have H:=(Hp.start [] w).newRow 3 (e:=75) (sz:=3);have hb1:=hid (show decide ((0:Int)≤(rows:Int)∧(rows:Int)≤200)=true by simp;omega);have hb2:=hid (show decide ((0:Int)≤(cols:Int)∧(cols:Int)≤200)=true by simp;omega)
 go_enter Tryz.func122,Tryz.ntmps122
 revert H;refine W69 ?_;intro _ g0 w1 hg H hf _ _ _ _ _ _;(refine x_c H (zbl _ rows 0 200 hb1) ?_;clear H;rintro e w1 ⟨rfl,hF⟩ H;replace hF:=hF.kp);simp only[Int.not_lt,Int.not_le]at*;revert H;refine W69 ?_;intro H _ _;(refine x_c H (zbl _ cols 0 200 hb2) ?_;clear H;rintro e w1 ⟨rfl,hF⟩ H;replace hF:=hF.kp);simp only[Int.not_lt,Int.not_le]at*;revert H;refine W69 ?_;intro H _ _;clear hb1 hb2
 go_loopw [31] (fun s31 wr=>∃k:Nat,s31= .int .i64 (k:Int)∧k≤E.length∧Hp [] w wr [.blk g0 [.int .i64 0, .int .i64 0, .slice none 0 0, .slice none 0 0, .slice none 0 0] 28, .obj 3 [] (RowAt 75 3 (.slice none 0 0) 0 [] [])]) (fun v _=>E.length-(intOf v).toNat)
 case atStart=>exact⟨0,rfl,Nat.zero_le _,H.arr ye⟩
 case round=>
  clear H;obtain⟨k,rfl,hk,H⟩:=hrel
  by_cases hlt:k<E.length
  ·obtain⟨⟨xr,xc,xv⟩,hx⟩:∃x,E[k]? =some x:=⟨_,List.getElem?_eq_getElem hlt⟩;have hxb:=HOK.out _ (List.mem_of_getElem? hx);simp only at hxb;have hB1:=hid (show decide ((0:Int)≤(xr:Int)∧(xr:Int)≤(rows:Int)-1)=true by simp;omega);have hB2:=hid (show decide ((0:Int)≤(xc:Int)∧(xc:Int)≤(cols:Int)-1)=true by simp;omega);obtain⟨g,hg⟩:=HR.out.some hx;subst hg;have HX:=hid hx;clear hx hxb;revert H;refine W70 ?_;intro _ _ _ g1 _ hg hf w1 H hk _ _ _ _;(refine x_c H (zbl _ xr 0 ((rows:Int)-1) hB1) ?_;clear H;rintro e w1 ⟨rfl,hF⟩ H;replace hF:=hF.kp);simp only[Int.not_lt,Int.not_le]at*;revert H;refine W69 ?_;intro H _ _;(refine x_c H (zbl _ xc 0 ((cols:Int)-1) hB2) ?_;clear H;rintro e w1 ⟨rfl,hF⟩ H;replace hF:=hF.kp);simp only[Int.not_lt,Int.not_le]at*;revert H;refine W69 ?_;intro H
   go_roundw
   case rel=>exact⟨k+1,rfl,by omega,H.arr ye⟩
   case measure=>(simp[intOf];try omega)
  ·revert H;refine W69 ?_;intro H _ _ _ _ _
   go_loopw [53] (fun s53 wr=>∃k:Nat,s53= .int .i64 (k:Int)∧k≤E.length∧Hp [] w wr [.blk g0 [.int .i64 0, .int .i64 0, .slice none 0 0, .slice none 0 0, .slice none 0 0] 28, .obj 3 [] (RowAt 75 3 (.slice none 0 0) 0 [] [])]) (fun v _=>E.length-(intOf v).toNat)
   case atStart=>exact⟨0,rfl,Nat.zero_le _,H.arr ye⟩
   case round=>
    clear H;obtain⟨k,rfl,hk,H⟩:=hrel
    by_cases hlt:k<E.length
    ·obtain⟨⟨xr,xc,xv⟩,hx⟩:∃x,E[k]? =some x:=⟨_,List.getElem?_eq_getElem hlt⟩;have hxb:=HOK.out _ (List.mem_of_getElem? hx);simp only at hxb;have hv64:=hxb.2.2.2;have hB1:=hid hxb.2.2.1;obtain⟨g,hg⟩:=HR.out.some hx;subst hg;have HX:=hid hx;clear hx hxb;revert H;refine W70 ?_;intro _ _ _ g1 _ hg hf w1 H hk _ _ _ _;(refine x_c H (zbX _ hv64 hB1) ?_;clear H;rintro e w1 ⟨rfl,hF⟩ H;replace hF:=hF.kp);simp only[Int.not_lt,Int.not_le]at*;revert H;refine W69 ?_;intro H
     go_roundw
     case rel=>exact⟨k+1,rfl,by omega,H.arr ye⟩
     case measure=>(simp[intOf];try omega)
    ·revert H;refine W69 ?_;intro H _ _ _ _ _ _ _;refine Calls.mono (zhj _ E (HR.out.fr H.fr).rd (Nat.le_trans hE yf)) ?_;rintro e w1 ⟨vs,rfl,hF,S,hSl,hown,hp,hs⟩;obtain⟨Ss,H1⟩:=H.rowNew 1 hF hown;clear H;have H:=H1;replace hF:=hF.kp;clear H1 hown;have HSE:=hid (zs5 HAP.out (fun x hx=>⟨(HOK.out x hx).1,(HOK.out x hx).2.1⟩) hp hs);have HSL:=hid (ze6 hs (zfQ hp HAP.out));have HOS:=hid (fun x (hx:x∈S)=>HOK.out x (hp.mem_iff.2 hx));obtain⟨N,hN⟩:∃N,S.length=N:=⟨_,rfl⟩;rw[←hSl,hN]at H hE;have HN:=hid hN;clear hp hs hSl hN HAP HOK HR;obtain⟨p5,c5,rfl,hNc,_⟩:=(H.rowo 1).form;have hS0:=hid (fun h:0<N=>(H.rowo 1).some h);simp only[Int.not_lt,Int.not_le]at*;revert H;refine W69 ?_;intro H _ _
     go_loopw [2,12] (fun s2 s12 wr=>∃(k nl cl:Nat) (pl pO:Option Addr) (cO:Nat) (SO:List Nat),s2= .slice pl nl cl∧s12= .slice pO k cO∧nl+k=N∧nl≤cl∧Hid (0<nl→∃gs,p5=some ⟨gs,0,none⟩∧pl=some ⟨gs,k*3,none⟩)∧Hp [] w wr [.obj 3 SO (RowAt 75 3 (.slice pO k cO) k (((S.take k).map clE).flatMap eC) SO), .obj 1 Ss (RowAt 75 3 (.slice p5 N c5) N (S.flatMap eC) Ss), .blk g0 [.int .i64 0, .int .i64 0, .slice none 0 0, .slice none 0 0, .slice none 0 0] 28]) (fun v _ _=>zcR v)
     case atStart=>
      refine⟨0,N,c5,p5,none,0,[],rfl,rfl,by omega,hNc,hid (fun h=>?_),H.arr ye⟩;obtain⟨gs,cs,he,_⟩:=hS0.out h
      cases he
      exact⟨gs,rfl,by rw[Nat.zero_mul]⟩
     case round=>
      clear H hS0 hF;obtain⟨k,nl,cl,pl,pO,cO,SO,rfl,rfl,hnk,hcl,HPL,H⟩:=hrel
      by_cases hlt:0<nl
      ·obtain⟨gs,hp5,hpl⟩:=HPL.out hlt;subst hp5 hpl;obtain⟨⟨xr,xc,xv⟩,hx⟩:∃x,S[k]? =some x:=⟨_,List.getElem?_eq_getElem yV⟩;have hxb:=HOS.out _ (List.mem_of_getElem? hx);simp only at hxb;have hv64:=hxb.2.2.2;have HFN:=hid hxb.2.2.1;have hexp:=zt8 hxb.2.2.1;have hpre:[.int .i64 (xr:Int), .int .i64 (xc:Int), .int .u64 (xv:Int)]<+:(S.flatMap eC).drop (k*3):=zdu hx;have hx0:(S.flatMap eC)[k*3]? =some (.int .i64 (xr:Int)):=zbQ hx 0 yf;have hx1:(S.flatMap eC)[k*3+1]? =some (.int .i64 (xc:Int)):=zbQ hx 1 yf;have hx2:(S.flatMap eC)[k*3+2]? =some (.int .u64 (xv:Int)):=zbQ hx 2 yf;have HX:=hid hx;clear hx hxb HPL;obtain⟨z,hz0⟩:∃z,zbU xv=z:=⟨_,rfl⟩;have hz64:z<18446744073709551616:=by rw[←hz0];exact zos hv64
       have HZF:=hid (show zS z=true by rw[←hz0];exact zlS HFN.out);revert H;refine W71 ?_;intro _ g1 _ hg hf w1 H hk _ _;have H1:=H.newRow 4 (e:=123) (sz:=4);clear H;have H:=H1;clear H1
       go_loopw [2,14] (fun s2 s14 wr=>(s2= .slice (some ⟨gs,k*3,none⟩) nl cl∧s14= .slice none 0 0∧Hp [] w wr [.obj 4 [] (RowAt 123 4 (.slice none 0 0) 0 [] []), .blk g1 [.int .i64 (xr:Int), .int .i64 (xc:Int), .int .u64 (xv:Int)] 75, .obj 3 SO (RowAt 75 3 (.slice pO k cO) k (((S.take k).map clE).flatMap eC) SO), .obj 1 Ss (RowAt 75 3 (.slice (some ⟨gs,0,none⟩) N c5) N (S.flatMap eC) Ss), .blk g0 [.int .i64 0, .int .i64 0, .slice none 0 0, .slice none 0 0, .slice none 0 0] 28])∨(∃(nl1 cl1:Nat) (pl1:Option Addr) (gd cd:Nat) (m9 e9:Int) (b9:Bool) (p9:Option Addr) (n9 c9:Nat),s2= .slice pl1 nl1 cl1∧s14= .slice (some ⟨gd,0,none⟩) 1 cd∧nl1+1=nl∧nl1≤cl1∧Hid (0<nl1→pl1=some ⟨gs,(k+1)*3,none⟩)∧Hid (Nm (sg (decide (9223372036854775808≤xv)) (zA (xv%9223372036854775808))) (zh (xv%9223372036854775808)) m9 e9)∧Hid (Bv wr (.agg #[.bool b9, .slice p9 n9 c9]) m9 (bl m9.natAbs))∧Hp [] w wr [.obj 4 [gd] (RowAt 123 4 (.slice (some ⟨gd,0,none⟩) 1 cd) 1 [.bool false, .bool b9, .slice p9 n9 c9, .int .i64 e9] [gd]), .blk g1 [.int .i64 (xr:Int), .int .i64 (xc:Int), .int .u64 (xv:Int)] 75, .obj 3 SO (RowAt 75 3 (.slice pO k cO) k (((S.take k).map clE).flatMap eC) SO), .obj 1 Ss (RowAt 75 3 (.slice (some ⟨gs,0,none⟩) N c5) N (S.flatMap eC) Ss), .blk g0 [.int .i64 0, .int .i64 0, .slice none 0 0, .slice none 0 0, .slice none 0 0] 28])) (fun v _ _=>zcR v)
       case atStart=>exact .inl ⟨rfl,rfl,H.arr ye⟩
       case round=>
        clear H
        rcases hrel with⟨rfl,rfl,H⟩|⟨nl1,cl1,pl1,gd,cd,m9,e9,b9,p9,n9,c9,rfl,rfl,hn1,hc1,HPL1,HN9,HB9,H⟩
        ·have hFk:=H.fr.kp;revert H;refine W69 ?_;intro H _ _ _ _ _
         (revert H;refine zR 21 (.st 0 (.st 1 (.st 2 (.st 3 (.st 4 (.st 5 (.st 6 (.st 7 (.st 8 (.st 9 (.st 10 (.st 11 (.st 12 (.st 13 (.st 14 (.st 15 (.st 16 (.st 17 (.st 18 (.st 19 (.st 20 .done))))))))))))))))))))) ?_;intro w1 hf H;(first|replace hf:=hf.kp|clear hf))
         iterate 4 refine p_q ?_
         iterate 3 (first|refine p_q ?_|refine p_n ?_)
         (first|refine p_e rfl (fun w H=>zce rfl rfl (H.rowo 1) hx0) ?_|refine p_n ?_)
         iterate 3 (first|refine p_q ?_|refine p_n ?_)
         iterate 2 refine p_q ?_
         iterate 3 (first|refine p_q ?_|refine p_n ?_)
         (first|refine p_e rfl (fun w H=>zce rfl rfl (H.rowo 1) hx1) ?_|refine p_n ?_)
         iterate 3 (first|refine p_q ?_|refine p_n ?_)
         refine p_q ?_;(refine zf ?_);revert H;refine W69 ?_;intro H
         (revert H;refine zR 12 (.st 0 (.st 1 (.st 2 (.st 3 (.st 4 (.st 8 (.st 9 (.ld 5 (.ld 6 (.ld 7 (.st 10 (.st 11 .done)))))))))))) ?_ (hs:=(.cons _ (List.Sublist.refl _)));intro w1 hf H;(first|replace hf:=hf.kp|clear hf))
         iterate 4 refine p_q ?_
         (refine p_e rfl (fun w H=>zce rfl rfl (H.rowo 1) hx2) ?_)
         iterate 2 refine p_q ?_
         (refine p_c H rfl rfl Tryz.func94 (zhN _ hv64 hexp (HT.out.fr H.fr)) ?_;clear H;rintro e w1 ⟨v9,rfl,hF,hD⟩ H;refine p_r ?_;replace hF:=hF.kp);obtain⟨m9,e9,b9,p9,n9,c9,rfl,hN,hB⟩:=hD;have HN9:=hid hN;have HB9:=hid hB;clear hN hB
         (revert H;refine p_g ?_;intro gt w1 hg hf H;(first|replace hf:=hf.kp|clear hf))
         (go_loud (refine zag rfl rfl (fun K hK=>zaN H rfl rfl rfl 4 (H.rd (b:=gt) (off:=0) (vs:=[.bool false, .bool b9, .slice p9 n9 c9, .int .i64 e9]) List.prefix_rfl) rfl (by intro u hu;simp only[List.mem_cons,List.not_mem_nil,or_false]at hu;rcases hu with rfl|rfl|rfl|rfl<;>rfl) yb yk (fun pd cd w1 Sd hf H1=>hK _ _ (fun hne=>by first|exact absurd rfl hne|exact trivial|exact H1.sub yd) ?_)));(clear hK K);(clear H;have H:=H1;clear H1;(try dsimp only at H);(first|replace hf:=hf.kp|clear hf));(simp only[nrm,↓reduceIte,Nat.reduceAdd]))
         iterate 2 refine p_q ?_
         (refine zf ?_)
         all_goals
          revert H;refine W69 ?_;intro H
          go_roundw
          case rel=>
           obtain⟨gd,cd',hpd,rfl⟩:=(H.rowo 4).some yb
           cases hpd
           refine .inr ⟨_,_,_,gd,_,m9,e9,b9,p9,n9,c9,rfl,rfl,by omega,by omega,hid (fun h=>?_),HN9,hid (bv HB9),H.arr ye⟩;rw[if_neg yb,show k*3+Int.toNat 1*3=(k+1)*3 by omega]
          case measure=>(simp only[zcR];omega)
        ·have hFk:=H.fr.kp
         rcases Nat.eq_zero_or_pos nl1 with h0|h0
         ·subst h0;revert H;refine W69 ?_;intro H _ _ _ _ _
          (revert H;refine zR 21 (.st 0 (.st 1 (.st 2 (.st 3 (.st 4 (.st 5 (.st 6 (.st 7 (.st 8 (.st 9 (.st 10 (.st 11 (.st 12 (.st 13 (.st 14 (.st 15 (.st 16 (.st 17 (.st 18 (.st 19 (.st 20 .done))))))))))))))))))))) ?_;intro w1 hf H;(first|replace hf:=hf.kp|clear hf))
          iterate 4 refine p_q ?_
          iterate 3 (first|refine p_q ?_|refine p_n ?_)
          (first|refine p_e rfl (fun w H=>zce rfl rfl (H.rowo 1) hx0) ?_|refine p_n ?_)
          iterate 3 (first|refine p_q ?_|refine p_n ?_)
          iterate 2 refine p_q ?_
          iterate 3 (first|refine p_q ?_|refine p_n ?_)
          (first|refine p_e rfl (fun w H=>zce rfl rfl (H.rowo 1) hx1) ?_|refine p_n ?_)
          iterate 3 (first|refine p_q ?_|refine p_n ?_)
          refine p_q ?_;(refine zf ?_);revert H;refine W69 ?_;intro H _ _ _ _;(refine x_c H (zgq (RowAt.firm.lt _ (H.rowo 4) gd yg) (fun j u hj=>by rw[Nat.zero_add];exact(H.rowo 4).cell hj) ⟨_,_,_,_,_,_,rfl,HN9.out,bv HB9⟩ zjG zjZ (HT.out.fr H.fr)) ?_;clear H;rintro e w1 ⟨v10,x2,e2,mm,ee,rfl,hF,hD,hN1,hN2,hb2,he2⟩ H;replace hF:=hF.kp;skip);have HX2:=hid (hz0.symm.trans (zd3 hv64 HFN.out hN1 hN2));have HD2:=hid hD;clear hN1 hN2 hD;simp only[Int.not_lt,Int.not_le]at*;revert H;refine W69 ?_;intro H _ _;(refine xK H (zcB 0 (dn HD2) yb yb (HT.out.fr H.fr) HX2) ?_;clear H;intro w1 hF H);simp only[Int.not_lt,Int.not_le]at*;revert H;refine W69 ?_;intro w1 H _ _ _ _ _ _;(refine x_c H (zbX _ hz64 HZF) ?_;clear H;rintro e w1 ⟨rfl,hF⟩ H;replace hF:=hF.kp);simp only[Int.not_lt,Int.not_le]at*;revert H;refine W72 ?_;intro g2 _ hg hf p1 c1 w1 S' H
          go_roundw
          case rel=>
           refine⟨k+1,_,_,_,_,_,S',rfl,rfl,by omega,hc1,hid (fun h=>⟨gs,rfl,by first|exact HPL1.out h|rfl⟩),?_⟩
           have e1:((S.take (k+1)).map clE).flatMap eC=((S.take k).map clE).flatMap eC++eC (xr,xc,z):=by
            rw[zb7 HX.out,List.map_append,List.flatMap_append];simp only[List.map_cons,List.map_nil,List.flatMap_cons,List.flatMap_nil,List.append_nil,clE,hz0]
           rw[e1];(refine Hp.arr H ?_;repeat (first|exact Pm.nil _|(apply Pm.cons;· (repeat first|exact Rm.here _|apply Rm.there))))
          case measure=>(simp only[zcR];omega)
         ·have hpl1:=HPL1.out h0;subst hpl1;obtain⟨⟨yr,yc,yv⟩,hy⟩:∃x,S[k+1]? =some x:=⟨_,List.getElem?_eq_getElem yV⟩;have hy0:(S.flatMap eC)[(k+1)*3]? =some (.int .i64 (yr:Int)):=zbQ hy 0 yf;have hy1:(S.flatMap eC)[(k+1)*3+1]? =some (.int .i64 (yc:Int)):=zbQ hy 1 yf
          have hyx:¬(yr=xr∧yc=xc):=by
           have e1:=List.getElem?_eq_some_iff.1 HX.out;have e2:=List.getElem?_eq_some_iff.1 hy
           have:=List.pairwise_iff_getElem.1 HSL.out k (k+1) e1.1 e2.1 yb
           rw[e1.2,e2.2]at this;unfold ltE at this;simp only at this
           omega
          clear hy
          by_cases hyr:yr=xr
          ·have hyr2:=hyr.symm;clear hyr;subst hyr2;have hyc:¬(yc:Int)=(xc:Int):=by omega
           clear hyx;simp only[Int.not_lt,Int.not_le]at*;revert H;refine W69 ?_;intro H _ _ _ _ _
           (revert H;refine zR 21 (.st 0 (.st 1 (.st 2 (.st 3 (.st 4 (.st 5 (.st 6 (.st 7 (.st 8 (.st 9 (.st 10 (.st 11 (.st 12 (.st 13 (.st 14 (.st 15 (.st 16 (.st 17 (.st 18 (.st 19 (.st 20 .done))))))))))))))))))))) ?_;intro w1 hf H;(first|replace hf:=hf.kp|clear hf))
           iterate 4 refine p_q ?_
           iterate 3 (first|refine p_q ?_|refine p_n ?_)
           (first|refine p_e rfl (fun w H=>zce rfl rfl (H.rowo 1) hy0) ?_|refine p_n ?_)
           iterate 3 (first|refine p_q ?_|refine p_n ?_)
           iterate 2 refine p_q ?_
           iterate 3 (first|refine p_q ?_|refine p_n ?_)
           (first|refine p_e rfl (fun w H=>zce rfl rfl (H.rowo 1) hy1) ?_|refine p_n ?_)
           iterate 3 (first|refine p_q ?_|refine p_n ?_)
           refine p_q ?_;(refine zf ?_);revert H;refine W69 ?_;intro H _ _ _ _;(refine x_c H (zgq (RowAt.firm.lt _ (H.rowo 4) gd yg) (fun j u hj=>by rw[Nat.zero_add];exact(H.rowo 4).cell hj) ⟨_,_,_,_,_,_,rfl,HN9.out,bv HB9⟩ zjG zjZ (HT.out.fr H.fr)) ?_;clear H;rintro e w1 ⟨v10,x2,e2,mm,ee,rfl,hF,hD,hN1,hN2,hb2,he2⟩ H;replace hF:=hF.kp;skip);have HX2:=hid (hz0.symm.trans (zd3 hv64 HFN.out hN1 hN2));have HD2:=hid hD;clear hN1 hN2 hD;simp only[Int.not_lt,Int.not_le]at*;revert H;refine W69 ?_;intro H _ _;(refine xK H (zcB 0 (dn HD2) yb yb (HT.out.fr H.fr) HX2) ?_;clear H;intro w1 hF H);simp only[Int.not_lt,Int.not_le]at*;revert H;refine W69 ?_;intro w1 H _ _ _ _ _ _;(refine x_c H (zbX _ hz64 HZF) ?_;clear H;rintro e w1 ⟨rfl,hF⟩ H;replace hF:=hF.kp);simp only[Int.not_lt,Int.not_le]at*;revert H;refine W72 ?_;intro g2 _ hg hf p1 c1 w1 S' H
           go_roundw
           case rel=>
            refine⟨k+1,_,_,_,_,_,S',rfl,rfl,by omega,hc1,hid (fun h=>⟨gs,rfl,by first|exact HPL1.out h|rfl⟩),?_⟩
            have e1:((S.take (k+1)).map clE).flatMap eC=((S.take k).map clE).flatMap eC++eC (xr,xc,z):=by
             rw[zb7 HX.out,List.map_append,List.flatMap_append];simp only[List.map_cons,List.map_nil,List.flatMap_cons,List.flatMap_nil,List.append_nil,clE,hz0]
            rw[e1];(refine Hp.arr H ?_;repeat (first|exact Pm.nil _|(apply Pm.cons;· (repeat first|exact Rm.here _|apply Rm.there))))
           case measure=>(simp only[zcR];omega)
          ·have hyc:¬(yr:Int)=(xr:Int):=by omega
           clear hyx hyr;simp only[Int.not_lt,Int.not_le]at*;revert H;refine W69 ?_;intro H _ _ _ _ _
           (revert H;refine zR 21 (.st 0 (.st 1 (.st 2 (.st 3 (.st 4 (.st 5 (.st 6 (.st 7 (.st 8 (.st 9 (.st 10 (.st 11 (.st 12 (.st 13 (.st 14 (.st 15 (.st 16 (.st 17 (.st 18 (.st 19 (.st 20 .done))))))))))))))))))))) ?_;intro w1 hf H;(first|replace hf:=hf.kp|clear hf))
           iterate 4 refine p_q ?_
           iterate 3 (first|refine p_q ?_|refine p_n ?_)
           (first|refine p_e rfl (fun w H=>zce rfl rfl (H.rowo 1) hy0) ?_|refine p_n ?_)
           iterate 3 (first|refine p_q ?_|refine p_n ?_)
           iterate 2 refine p_q ?_
           iterate 3 (first|refine p_q ?_|refine p_n ?_)
           (first|refine p_e rfl (fun w H=>zce rfl rfl (H.rowo 1) hy1) ?_|refine p_n ?_)
           iterate 3 (first|refine p_q ?_|refine p_n ?_)
           refine p_q ?_;(refine zf ?_);revert H;refine W69 ?_;intro H _ _ _ _;(refine x_c H (zgq (RowAt.firm.lt _ (H.rowo 4) gd yg) (fun j u hj=>by rw[Nat.zero_add];exact(H.rowo 4).cell hj) ⟨_,_,_,_,_,_,rfl,HN9.out,bv HB9⟩ zjG zjZ (HT.out.fr H.fr)) ?_;clear H;rintro e w1 ⟨v10,x2,e2,mm,ee,rfl,hF,hD,hN1,hN2,hb2,he2⟩ H;replace hF:=hF.kp;skip);have HX2:=hid (hz0.symm.trans (zd3 hv64 HFN.out hN1 hN2));have HD2:=hid hD;clear hN1 hN2 hD;simp only[Int.not_lt,Int.not_le]at*;revert H;refine W69 ?_;intro H _ _;(refine xK H (zcB 0 (dn HD2) yb yb (HT.out.fr H.fr) HX2) ?_;clear H;intro w1 hF H);simp only[Int.not_lt,Int.not_le]at*;revert H;refine W69 ?_;intro w1 H _ _ _ _ _ _;(refine x_c H (zbX _ hz64 HZF) ?_;clear H;rintro e w1 ⟨rfl,hF⟩ H;replace hF:=hF.kp);simp only[Int.not_lt,Int.not_le]at*;revert H;refine W72 ?_;intro g2 _ hg hf p1 c1 w1 S' H
           go_roundw
           case rel=>
            refine⟨k+1,_,_,_,_,_,S',rfl,rfl,by omega,hc1,hid (fun h=>⟨gs,rfl,by first|exact HPL1.out h|rfl⟩),?_⟩
            have e1:((S.take (k+1)).map clE).flatMap eC=((S.take k).map clE).flatMap eC++eC (xr,xc,z):=by
             rw[zb7 HX.out,List.map_append,List.flatMap_append];simp only[List.map_cons,List.map_nil,List.flatMap_cons,List.flatMap_nil,List.append_nil,clE,hz0]
            rw[e1];(refine Hp.arr H ?_;repeat (first|exact Pm.nil _|(apply Pm.cons;· (repeat first|exact Rm.here _|apply Rm.there))))
           case measure=>(simp only[zcR];omega)
      ·have hkN:k=N:=by omega
       have e0:S.take k=S:=List.take_of_length_le yV;have hml:(S.map clE).length=k:=by rw[List.length_map,HN.out];omega
       have HML:=hid hml;rw[e0]at H;have HKN:=hid hkN;clear e0 hkN hml;revert H;refine W69 ?_;intro H _ _ _ _ _ _ _
       refine Calls.mono (zrg _ rows cols hc2 (S.map clE) (S.map clE) HML.out ((EntR.of (H.rowo 3)).rd) yb (zpe (zna HSL.out)) (fun x hx=>by
        obtain⟨y,hy,rfl⟩:=List.mem_map.1 hx
        exact(HOS.out y hy).2.1)) ?_
       rintro e w1 ⟨v1,v2,v3,B,rfl,hF,hM,hB⟩;obtain⟨S1,S2,S3,H1⟩:=H.mat 5 6 7 hF hM hB;clear H hF hM hB;have H:=H1;clear H1;rw[show pre (S.map clE)=pre S from funext (zsI S),zqd]at H;simp only[List.length_map,List.length_range,HN.out]at H;obtain⟨q1,d1,rfl,_⟩:=(H.rowo 5).form;obtain⟨q2,d2,rfl,_⟩:=(H.rowo 6).form;obtain⟨q3,d3,rfl,_⟩:=(H.rowo 7).form;simp only[Int.not_lt,Int.not_le]at*;revert H;refine W69 ?_;intro w1 H hk;refine zi H rfl rfl rfl rfl ?_;rw[←HSE.out];have H3:Hp [] w w1 [.obj 5 S1 (RowAt 3 1 (.slice q1 (cols+1) d1) (cols+1) (((List.range (cols+1)).map (pre S)).map iV) S1), .obj 6 S2 (RowAt 3 1 (.slice q2 N d2) N ((S.map (·.1)).map iV) S2), .obj 7 S3 (RowAt 51 1 (.slice q3 N d3) N (((S.map clE).map (·.2.2)).map uV) S3)]:=H.arr ye;exact⟨_,_,_,S1++(S2++S3),rfl,H.fr,zea yX (H3.rowo 5) (H3.rowo 6) (H3.rowo 7) rfl rfl rfl yg y4 y4,fun x hx=>H3.fresh x (by simpa[Ent.own]using hx)⟩
end
end Go.Proofs.YtaijhllckmndhaaGreatDoor
