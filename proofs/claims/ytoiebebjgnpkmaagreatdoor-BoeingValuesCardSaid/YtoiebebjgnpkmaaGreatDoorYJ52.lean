import Derived.Test.YtoiebebjgnpkmaaGreatDoorYJ0
import Derived.Test.YtoiebebjgnpkmaaGreatDoorYJ50
import Derived.Test.YtoiebebjgnpkmaaGreatDoorYJ51
namespace Go.Proofs.YtoiebebjgnpkmaaGreatDoor
open Go.RowKit
set_option linter.unusedSimpArgs false
set_option linter.unusedVariables false
set_option maxHeartbeats 8000000
set_option maxRecDepth 100000
attribute [local irreducible] wpList Code.wp Plan.wp
theorem wf_u64 {f:Int} (h:(Lit.int .u64 f).wf=true):∃ b:Nat,f=(b:Int)∧b<18446744073709551616:=by
 simp [Lit.wf,IntKind.min,IntKind.max,IntKind.bits,IntKind.signed] at h
 exact ⟨f.toNat,by omega,by omega⟩
set_option maxHeartbeats 32000000 in
theorem boeingValues_walk (W:World) (hL:laidMetH Tryz.prog laid7 W) (f:Int) (w0:(Lit.int .u64 f).wf=true):
 Calls Tryz.prog 3 #[.int .u64 f] W fun e w'=>e= .returned (.bool true)∧Fr [] W w':=by
 obtain ⟨b,rfl,hb⟩:=wf_u64 w0
 have HT:=hid (la_of hL)
 clear w0 hL
 obtain ⟨z,hz⟩:∃ z,finF b=z:=⟨_,rfl⟩
 have HZ:=hid hz
 have H:=Hp.start [] W
 go_enter Tryz.func3,Tryz.ntmps3
 cases z with
 | false=>
  clear hz
  (revert H;refine W1a31 ?_ <;>unhygienic intros)
  (refine x_c H (format_bad _ ⟨H.cell (b:=ga) (p:=0) rfl,H.cell (b:=ga) (p:=1) rfl,H.cell (b:=g0) (p:=0) rfl,H.cell (b:=g1) (p:=0) rfl,by decide,by decide,by decide,hb⟩ HZ) ?_;clear H;rintro e w1 ⟨rfl,hF⟩ H;clear hF)
  (revert H;refine W4be2 ?_ <;>unhygienic intros)
  (refine x_c H (rcheck1_any _ ⟨H.cell (b:=ga) (p:=0) rfl,H.cell (b:=ga) (p:=1) rfl,H.cell (b:=g0) (p:=0) rfl,H.cell (b:=g1) (p:=0) rfl,by decide,by decide,by decide,hb⟩ HZ) ?_;clear H;rintro e w1 ⟨rfl,hF⟩ H;clear hF)
  (revert H;refine W4be2 ?_ <;>unhygienic intros)
  (refine x_c H (awakeB_any _ (HT.out.fr H.fr)) ?_;clear H;rintro e w1 ⟨rfl,hF⟩ H;clear hF)
  (revert H;refine W4be2 ?_ <;>unhygienic intros)
  go_ret
  exact ⟨rfl,H.fr⟩
 | true=>
  (revert H;refine W1a31 ?_ <;>unhygienic intros)
  (refine x_c H (format_one _ ⟨H.cell (b:=ga) (p:=0) rfl,H.cell (b:=ga) (p:=1) rfl,H.cell (b:=g0) (p:=0) rfl,H.cell (b:=g1) (p:=0) rfl,by decide,by decide,by decide,hb⟩ HZ (HT.out.fr H.fr)) ?_ (fun _ _ h=>by obtain ⟨l,p,c,_,hF,_⟩:=h;exact hF);clear H;rintro e w1 ⟨l,p,c,rfl,hF,hrd,hl⟩ H;clear hF)
  (revert H;refine W4be2 ?_ <;>unhygienic intros)
  (refine x_c H (rcheck1_any _ ⟨H.cell (b:=ga) (p:=0) rfl,H.cell (b:=ga) (p:=1) rfl,H.cell (b:=g0) (p:=0) rfl,H.cell (b:=g1) (p:=0) rfl,by decide,by decide,by decide,hb⟩ HZ) ?_;clear H;rintro e w2 ⟨rfl,hF⟩ H)
  have hrd2:=hrd.fr hF (by simp)
  clear hrd hF
  have htl:=(text_value hl hz).2.1
  have HV:=hid (v_file_lines hl hz)
  have HBD:=hid (v_body_ok hl hz hb)
  clear hz hl
  (revert H;refine W4be2 ?_ <;>unhygienic intros)
  refine Calls.mono (parse_good _ _ (v_file_len (by omega)) hrd2 (HT.out.fr H.fr) HV.out v_head_ok HBD.out) ?_
  clear hrd2
  rintro e w1 ⟨hF,v1,v2,v3,B,rfl,hM,hB⟩
  obtain ⟨S1,S2,S3,H1⟩:=H.mat 2 3 4 hF hM hB
  clear H hF hM hB
  have H:=H1
  clear H1
  obtain ⟨q1,d1,rfl,_⟩:=(H.rowo 2).form
  obtain ⟨q2,d2,rfl,_⟩:=(H.rowo 3).form
  obtain ⟨gv,d3,hvv,rfl⟩:=(H.rowo 4).some (by simp)
  subst hvv
  (revert H;refine Wbec5 ?_ <;>unhygienic intros)
  (refine x_c H (awakeB_any _ (HT.out.fr H.fr)) ?_;clear H;rintro e w1 ⟨rfl,hF⟩ H;clear hF)
  (revert H;refine W4be2 ?_ <;>unhygienic intros)
  go_ret
  exact ⟨rfl,H.fr⟩
end Go.Proofs.YtoiebebjgnpkmaaGreatDoor
