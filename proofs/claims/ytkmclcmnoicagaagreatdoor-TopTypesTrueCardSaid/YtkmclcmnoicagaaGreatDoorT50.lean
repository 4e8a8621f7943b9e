/- TopTypesTrue's examples. -/
import Derived.Test.YtkmclcmnoicagaaGreatDoorT49
import Derived.Test.YtkmclcmnoicagaaGreatDoorT12
namespace Go.Proofs.YtkmclcmnoicagaaGreatDoor
set_option maxRecDepth 100000
set_option maxHeartbeats 128000000
open Go.RowKit
theorem Qcm {w:World} {a b c:Value} {md:Md} {r:List Nat} {rs:List (List Nat)}(h:MdV w (.agg #[a,b,c]) md)(hr:md.rel=r :: rs):
 ∃ad cc A l d,c=.slice (some ad) md.rel.length cc/\ad.block < w.heap.size/\w.cell? ad=some (.slice A l d)/\Ji w (.slice A l d) r:=by
 obtain⟨vv,vr,e,hv,hrr⟩:=h;injection e with e;injection e with e;injection e with _ e;injection e with _ e;injection e with e3 _;obtain⟨A,cc,e4,_,_,HR⟩:=Dc hrr;obtain⟨ad,u,rfl,hl,hc,hu⟩:=HR.out 0 (by rw [hr];exact Nat.succ_pos _);rw [hr]at hu;have hu2:Ji w u r:=hu;obtain⟨B,d,rfl,_⟩:=hu;rw [show ad.add 0=ad by unfold Addr.add;rfl]at hc;exact⟨ad,cc,B,_,d,by rw [e3,e4],hl,hc,hu2⟩
theorem Qiy:mdG.ok:=Qij (Ya Ie.1).1
theorem Qp0:((if Jr mdG exG=0 then Fe mdG exG else 0:Nat):Int)=6:=by rw [if_pos Ie.1,Ie.2];rfl
theorem Kh(w:World)(hT:Uj w):Calls Tryz.prog 17 #[] w fun e w'=>e=.returned (.bool true)/\Ext w w':=by
 have HT:=Qq hT;clear hT;go_enter Tryz.func17,Tryz.ntmps17;go_wp2_with fail;refine(Qnr _).mono ?_;rintro e w1 ⟨u1,rfl,hm,hx⟩;have HM:=Qq hm;have HX:=Qq hx;clear hm hx;obtain⟨n1,A1,l1,c1,B1,m1,d1,rfl⟩:=Qel HM.out;obtain⟨w2,hw2⟩:∃z,z=w1.alloc (.cells #[.int .i64 n1,.slice A1 l1 c1,.slice B1 m1 d1] 26):=⟨_,rfl⟩;obtain⟨b2,hb2⟩:∃z,z=w1.heap.size:=⟨_,rfl⟩;have E12:=Qq (show Ext w1 w2 by rw [hw2];exact Qz.alloc _);have B2:=Qq (show w2.heap[b2]?=some (.cells #[.int .i64 n1,.slice A1 l1 c1,.slice B1 m1 d1] 26 (0,0)) by rw [hw2,hb2];exact heap_alloc_new _ _);go_upto_region 2 with(fail);rw [<-hw2,<-hb2]
 clear hw2 hb2;have X2:=Qq (HX.out.trans E12.out);have M2:=Qq (HM.out.ext E12.out);clear HX HM E12;obtain⟨r0,r1,r2,rl⟩:=Xm B2.out;refine Vb 9 (fun w'=>w'.cell? (⟨b2,0,none⟩)=some (.int .i64 n1)/\w'.cell? (⟨b2,1,none⟩)=some (.slice A1 l1 c1)/\w'.cell? (⟨b2,2,none⟩)=some (.slice B1 m1 d1)) (by kernel_rfl) ⟨(Ext.cell (p:=⟨b2,0,none⟩) (by repeat(first|exact Qz|assumption|apply Ext.alloc|apply Ext.drew|apply Ext.setCell)) rl).trans r0,(Ext.cell (p:=⟨b2,1,none⟩) (by repeat(first|exact Qz|assumption|apply Ext.alloc|apply Ext.drew|apply Ext.setCell)) rl).trans r1,(Ext.cell (p:=⟨b2,2,none⟩) (by repeat(first|exact Qz|assumption|apply Ext.alloc|apply Ext.drew|apply Ext.setCell)) rl).trans r2⟩ (fun hHeld=> ?_)
 refine' Rr (i:=0) (v:=_) rfl (by kernel_rfl) (by kernel_rfl) (by kernel_rfl) (by kernel_rfl) (fun _ _ _ h=>h) (Or.inl ⟨by rfl,?hybu11⟩) hHeld ?restbu11
 case hybu11=>(intro w' hSw;(try dsimp only at hSw);go_simp;(try with_reducible rfl))
 refine Qb ?_;refine Zs (rs:= [1]) (by kernel_rfl) (by simp) ?_;refine Za.cons rfl (fun K hK=> ?_) Za.nil;go_simp;refine(Qkl _).mono ?_;rintro e y1 ⟨v1,rfl,hm⟩;have F1:=Qq hm.fml;have hx1:Ext w2 y1:=Ext.trans (by repeat(first|exact Qz|assumption|apply Ext.alloc|apply Ext.drew|apply Ext.setCell)) hm.2.2;obtain⟨G1,g1,rfl,_⟩:=Qa F1.out;clear hm;go_wp2_with fail;refine hK.out _ _ ⟨(Ext.cell (p:=⟨b2,0,none⟩) (by repeat(first|exact Qz|assumption|apply Ext.alloc|apply Ext.drew|apply Ext.setCell)) rl).trans r0,(Ext.cell (p:=⟨b2,1,none⟩) (by repeat(first|exact Qz|assumption|apply Ext.alloc|apply Ext.drew|apply Ext.setCell)) rl).trans r1,(Ext.cell (p:=⟨b2,2,none⟩) (by repeat(first|exact Qz|assumption|apply Ext.alloc|apply Ext.drew|apply Ext.setCell)) rl).trans r2⟩ (fun hHeld=> ?_)
 clear hK K;refine Qb ?_;refine Zs (rs:= [2]) (by kernel_rfl) (by simp) ?_;refine Za.cons rfl (fun K hK=> ?_) Za.nil;go_simp;refine(Qmt 0 Ez ⟨rfl,rfl,rfl,fun _=>rfl,fun _=>rfl⟩ _).mono ?_;rintro e y2 ⟨v2,rfl,hm⟩;have F2:=Qq hm.fml;have HY12:=Qq hm.2.2;have hx2:Ext w2 y2:=Ext.trans hx1 hm.2.2;obtain⟨G2,g2,rfl,_⟩:=Qa F2.out;clear hm;go_wp2_with fail;refine hK.out _ _ ⟨(Ext.cell (p:=⟨b2,0,none⟩) (by repeat(first|exact Qz|assumption|apply Ext.alloc|apply Ext.drew|apply Ext.setCell)) rl).trans r0,(Ext.cell (p:=⟨b2,1,none⟩) (by repeat(first|exact Qz|assumption|apply Ext.alloc|apply Ext.drew|apply Ext.setCell)) rl).trans r1,(Ext.cell (p:=⟨b2,2,none⟩) (by repeat(first|exact Qz|assumption|apply Ext.alloc|apply Ext.drew|apply Ext.setCell)) rl).trans r2⟩ (fun hHeld=> ?_)
 clear hK K;refine Qb ?_;refine Zs (rs:= [3]) (by kernel_rfl) (by simp) ?_;refine Za.cons rfl (fun K hK=> ?_) Za.nil;go_simp;have hy12:Ext y1 y2:=HY12.out;refine(Qzv 1 (Zq (by decide) (by decide)) ⟨rfl,rfl,rfl,fun _=>rfl,fun _=>rfl⟩ _ _ _ _ _ (F1.out.ext hy12) F2.out).mono ?_;rintro e y3 ⟨v3,rfl,hm⟩;have F3:=Qq (show Fml y3 v3 exG from hm.fml);have hx3:Ext w2 y3:=hx2.trans hm.2.2;obtain⟨G3,g3,rfl,_⟩:=Qa F3.out;clear hm;go_wp2_with fail;refine hK.out _ _ ⟨(Ext.cell (p:=⟨b2,0,none⟩) (by repeat(first|exact Qz|assumption|apply Ext.alloc|apply Ext.drew|apply Ext.setCell)) rl).trans r0,(Ext.cell (p:=⟨b2,1,none⟩) (by repeat(first|exact Qz|assumption|apply Ext.alloc|apply Ext.drew|apply Ext.setCell)) rl).trans r1,(Ext.cell (p:=⟨b2,2,none⟩) (by repeat(first|exact Qz|assumption|apply Ext.alloc|apply Ext.drew|apply Ext.setCell)) rl).trans r2⟩ (fun hHeld=> ?_)
 clear hK K;refine Qb ?_;refine Zs (rs:= [4]) (by kernel_rfl) (by simp) ?_;refine Za.cons rfl (fun K hK=> ?_) Za.nil;go_simp;refine(Od Oi _ _ mdG exG _ (M2.out.ext hx3) Qiy F3.out).mono ?_;rintro e y4 ⟨rfl,hh⟩;rw [Qp0,Ie.1];have hx4:Ext w2 y4:=hx3.trans hh;clear hh;go_wp2_with fail;refine hK.out _ _ ⟨(Ext.cell (p:=⟨b2,0,none⟩) (by repeat(first|exact Qz|assumption|apply Ext.alloc|apply Ext.drew|apply Ext.setCell)) rl).trans r0,(Ext.cell (p:=⟨b2,1,none⟩) (by repeat(first|exact Qz|assumption|apply Ext.alloc|apply Ext.drew|apply Ext.setCell)) rl).trans r1,(Ext.cell (p:=⟨b2,2,none⟩) (by repeat(first|exact Qz|assumption|apply Ext.alloc|apply Ext.drew|apply Ext.setCell)) rl).trans r2⟩ (fun hHeld=> ?_)
 clear hK K;refine Qb ?_;refine' Rr (i:=5) (v:=_) rfl (by kernel_rfl) (by kernel_rfl) (by kernel_rfl) (by kernel_rfl) (fun _ _ _ h=>h) (Or.inl ⟨by rfl,?hybu12⟩) hHeld ?restbu12
 case hybu12=>(intro w' hSw;(try dsimp only at hSw);go_simp;(try with_reducible rfl))
 refine Qb ?_;refine' Rr (i:=6) (v:=_) rfl (by kernel_rfl) (by kernel_rfl) (by kernel_rfl) (by kernel_rfl) (fun _ _ _ h=>h) (Or.inl ⟨by rfl,?hybu13⟩) hHeld ?restbu13
 case hybu13=>(intro w' hSw;(try dsimp only at hSw);go_simp;(try with_reducible rfl))
 refine Qb ?_;refine' Rr (i:=7) (v:=_) rfl (by kernel_rfl) (by kernel_rfl) (by kernel_rfl) (by kernel_rfl) (fun _ _ _ h=>h) (Or.inl ⟨by rfl,?hybu14⟩) hHeld ?restbu14
 case hybu14=>(intro w' hSw;(try dsimp only at hSw);go_simp;(try with_reducible rfl))
 refine Qb ?_;refine' Rr (i:=8) (v:=_) rfl (by kernel_rfl) (by kernel_rfl) (by kernel_rfl) (by kernel_rfl) (fun _ _ _ h=>h) (Or.inl ⟨by rfl,?hybu15⟩) hHeld ?restbu15
 case hybu15=>(intro w' hSw;(try dsimp only at hSw);go_simp;(try with_reducible rfl))
 refine Qb ?_;refine Vk (by kernel_rfl) rfl (fun K hK=> ?_);go_simp;refine hK.out _ _ ?_;clear hK K;refine Qb ?_;refine Vv (by kernel_rfl) ?_ _;clear r0 r1 r2 rl;have X4:=Qq (X2.out.trans hx4);have B4:=Qq ((hx4.block (Qm B2.out)).trans B2.out);have M4:=Qq (M2.out.ext hx4);clear hx1 hx2 hx3 hx4;go_wp2_with fail;refine(Qkl _).mono ?_;rintro e z1 ⟨v1,rfl,hm⟩;have F5:=Qq hm.fml;have E5:=Qq hm.2.2;obtain⟨G5,g5,rfl,_⟩:=Qa F5.out;clear hm;go_wp2_with fail;refine(Qsg _).mono ?_;rintro e z2 ⟨v2,rfl,hm⟩;have F6:=Qq hm.fml;have F56:=Qq (F5.out.ext hm.2.2);have E6:=Qq (E5.out.trans hm.2.2)
 obtain⟨G6,g6,rfl,_⟩:=Qa F6.out;clear hm;go_wp2_with fail;refine(Qzv 1 (Zq (by decide) (by decide)) ⟨rfl,rfl,rfl,fun _=>rfl,fun _=>rfl⟩ _ _ _ _ _ F56.out F6.out).mono ?_;rintro e z3 ⟨v3,rfl,hm⟩;have F7:=Qq (show Fml z3 v3 exH from hm.fml);have E7:=Qq (E6.out.trans hm.2.2);obtain⟨G7,g7,rfl,_⟩:=Qa F7.out;clear hm;go_wp2_with fail;refine(Qwy 0 _ exH _ F7.out).mono ?_;rintro e z4 ⟨rfl,hx⟩;rw [Zzk];have E8:=Qq (E7.out.trans hx);have X8:=Qq (X4.out.trans E8.out);have B8:=Qq ((E8.out.block (Qm B4.out)).trans B4.out);have M8:=Qq (M4.out.ext E8.out);clear hx F5 F6 F56 F7 E5 E6 E7
 obtain⟨ad,cc,A8,l8,d8,he,hal,hac,hu⟩:=Qcm (r:= [2,4,4]) (rs:= []) M8.out rfl;injection he with h1 h2 h3;subst h1 h2 h3;have HU:=Qq hu;obtain⟨r0,r1,r2,rl⟩:=Xm B8.out;clear hu;go_wp2_with fail;refine(Qhy _ _ (HT.out.ext X8.out) HU.out).mono ?_;rintro e z5 ⟨rfl,hx⟩;have X9:=Qq (X8.out.trans hx);clear hx;go_wp2_with fail;go_ret;exact⟨rfl,X9.out⟩
theorem Qsw(v:Value)(f:List Nd)(k:Int)(w:World)(h:Fml w v f):
 Calls Tryz.prog 12 #[v,.int .i64 k] w fun e w'=>e=.returned (.bool (decide ((f.length:Int)<=k)))/\w=w':=by
 obtain⟨A,c,rfl,_⟩:=Qa h;clear h;go_enter Tryz.func12,Tryz.ntmps12;go_wp2_with fail;go_ret;exact⟨rfl,rfl⟩
theorem Qo1 {lg:Int} {f:List Nd}(h:0<=lg/\lg<=6):Zd lg f=(Qn f).2:=by
 unfold Zd;rw [show(decide (lg < 0)||decide (6 < lg))=false by simp;omega];rfl
theorem Qf1 {w:World} {lg:Int} {vf vm:Value} {f:List Nd} {md:Md}(hf:Fml w vf f)(hm:MdV w vm md)(hok:md.ok)(hT:Uj w):
 Calls Tryz.prog 3 #[.int .i64 lg,vf,vm] w fun e w'=>e=.returned (.bool true)/\Ext w w':=by
 have HF:=Qq hf;have HOK:=Qq hok;have HT:=Qq hT;obtain⟨Af,cf,rfl,_⟩:=Qa hf;have HM:=Qq hm;obtain⟨vv,vr,rfl,⟨Av,cv,rfl,_⟩,⟨Ar,cr,rfl,_⟩⟩:=hm;obtain⟨n,hn⟩:∃z,z=md.n:=⟨_,rfl⟩;obtain⟨lv,hlv⟩:∃z,z=md.val.length:=⟨_,rfl⟩;obtain⟨lr,hlr⟩:∃z,z=md.rel.length:=⟨_,rfl⟩;have HN:=Qq hn;have HLV:=Qq hlv;have HLR:=Qq hlr;rw [<-hn,<-hlv,<-hlr]at HM⊢;obtain⟨ck,hck⟩:∃z,z=check f:=⟨_,rfl⟩;have HCK:=Qq hck;obtain⟨W0,hW0⟩:∃z,z=w.alloc (.cells #[.int .i64 n,.slice Av lv cv,.slice Ar lr cr] 26):=⟨_,rfl⟩;obtain⟨b,hb⟩:∃z,z=w.heap.size:=⟨_,rfl⟩;have X0:=Qq (show Ext w W0 by rw [hW0];exact Qz.alloc _);have B0:=Qq (show W0.heap[b]?=some (.cells #[.int .i64 n,.slice Av lv cv,.slice Ar lr cr] 26 (0,0)) by rw [hW0,hb];exact heap_alloc_new _ _)
 clear hf hok hT hn hlv hlr hck;obtain⟨e0,e1,e2,el⟩:=Xm B0.out;go_enter Tryz.func3,Tryz.ntmps3;go_upto_region 1 with(fail);rw [<-hW0,<-hb];clear hW0 hb;by_cases hl0:lg < 0
 ·skip
  go_wp2_with fail;refine(Kh _ (HT.out.ext X0.out)).mono ?_;rintro e wt ⟨rfl,hxt⟩;have YT:=Qq (X0.out.trans hxt);clear hxt;go_wp2_with fail;go_ret;exact⟨rfl,YT.out⟩
 by_cases hl6:6 < lg
 ·skip
  go_wp2_with fail;refine(Kh _ (HT.out.ext X0.out)).mono ?_;rintro e wt ⟨rfl,hxt⟩;have YT:=Qq (X0.out.trans hxt);clear hxt;go_wp2_with fail;go_ret;exact⟨rfl,YT.out⟩
 have HLG:=Qq (show 0<=lg/\lg<=6 by omega);obtain⟨fw,hfw⟩:∃z,z=decide ((f.length:Int)<=14):=⟨_,rfl⟩;go_wp2_with fail;refine(Qsw _ f 14 _ (HF.out.ext X0.out)).mono ?_;rintro e w1 ⟨rfl,rfl⟩;rw [<-hfw];clear hfw;cases fw
 ·skip
  go_wp2_with fail;refine(Kh _ (HT.out.ext X0.out)).mono ?_;rintro e wt ⟨rfl,hxt⟩;have YT:=Qq (X0.out.trans hxt);clear hxt;go_wp2_with fail;go_ret;exact⟨rfl,YT.out⟩
 go_wp2_with fail;refine(Vj _ f _ (HF.out.ext X0.out).1).mono ?_;rintro e w1 ⟨rfl,hx⟩;rw [<-HCK.out];have X1:=Qq (X0.out.trans hx);have B1:=Qq ((hx.block (Qm B0.out)).trans B0.out);clear hx e0 e1 e2 el;by_cases hz:ck=0
 case neg =>
  have hne:(ck !=0)=true:=by simpa using hz
  clear hz;go_wp2_with fail;refine(Kh _ (HT.out.ext X1.out)).mono ?_;rintro e wt ⟨rfl,hxt⟩;have YT:=Qq (X1.out.trans hxt);clear hxt;go_wp2_with fail;go_ret;exact⟨rfl,YT.out⟩
 subst hz;obtain⟨e0,e1,e2,el⟩:=Xm B1.out;go_wp2_with fail;refine(Qt0 _ md 8 _ (HM.out.ext X1.out)).mono ?_;rintro e w2 ⟨fb,rfl,hx⟩;have X2:=Qq (X1.out.trans hx);have B2:=Qq ((hx.block (Qm B1.out)).trans B1.out);clear hx e0 e1 e2 el;cases fb
 ·skip
  go_wp2_with fail;refine(Kh _ (HT.out.ext X2.out)).mono ?_;rintro e wt ⟨rfl,hxt⟩;have YT:=Qq (X2.out.trans hxt);clear hxt;go_wp2_with fail;go_ret;exact⟨rfl,YT.out⟩
 obtain⟨e0,e1,e2,el⟩:=Xm B2.out;go_wp2_with fail;refine(Qcx _ md lg _ (HM.out.ext X2.out) HOK.out).mono ?_;rintro e w3 ⟨ib,rfl,hx,hib⟩;have HIB:=Qq hib.out;have X3:=Qq (X2.out.trans hx);have B3:=Qq ((hx.block (Qm B2.out)).trans B2.out);clear hx hib e0 e1 e2 el;cases ib
 ·skip
  go_wp2_with fail;refine(Kh _ (HT.out.ext X3.out)).mono ?_;rintro e wt ⟨rfl,hxt⟩;have YT:=Qq (X3.out.trans hxt);clear hxt;go_wp2_with fail;go_ret;exact⟨rfl,YT.out⟩
 have HG:=Qq (HIB.out.1 rfl);obtain⟨e0,e1,e2,el⟩:=Xm B3.out;obtain⟨fi,hfi⟩:∃z,z=Yg f lr lv:=⟨_,rfl⟩;have HFI:=Qq hfi;clear hfi;go_wp2_with fail;refine(Qml _ f lr lv _ (HF.out.ext X3.out)).mono ?_;rintro e w4 ⟨rfl,hx⟩;rw [<-HFI.out];have X4:=Qq (X3.out.trans hx);have B4:=Qq ((hx.block (Qm B3.out)).trans B3.out);clear hx e0 e1 e2 el;cases fi
 ·skip
  go_wp2_with fail;refine(Kh _ (HT.out.ext X4.out)).mono ?_;rintro e wt ⟨rfl,hxt⟩;have YT:=Qq (X4.out.trans hxt);clear hxt;go_wp2_with fail;go_ret;exact⟨rfl,YT.out⟩
 go_wp2_with fail;refine(Ed _ f _ (HF.out.ext X4.out)).mono ?_;rintro e w5 ⟨u5,rfl,hm⟩;have F5:=Qq hm.fml;have X5:=Qq (X4.out.trans hm.2.2);have B5:=Qq ((hm.2.2.block (Qm B4.out)).trans B4.out);obtain⟨A5,c5,rfl,_⟩:=Qa F5.out;clear hm;obtain⟨be,hbe⟩:∃z,z=(Qn (Jp f)).2:=⟨_,rfl⟩;have HBE:=Qq hbe;obtain⟨bn,hbn⟩:∃z,z=(Qn (Jp f)).1.length:=⟨_,rfl⟩;have HBN:=Qq hbn;go_wp2_with fail;refine(Qzt _ (Jp f) _ F5.out).mono ?_;rintro e w6 ⟨u6,rfl,hx,hfr⟩;obtain⟨A6,c6,rfl,_⟩:=hfr.fmls;rw [<-hbe,<-hbn];have X6:=Qq (X5.out.trans hx);have B6:=Qq ((hx.block (Qm B5.out)).trans B5.out)
 clear hx hfr hbe hbn;by_cases hbz:be=0
 case neg =>
  have hne:(be !=0)=true:=by simpa using hbz
  clear hbz;go_wp2_with fail;refine(Kh _ (HT.out.ext X6.out)).mono ?_;rintro e wt ⟨rfl,hxt⟩;have YT:=Qq (X6.out.trans hxt);clear hxt;go_wp2_with fail;go_ret;exact⟨rfl,YT.out⟩
 subst hbz;by_cases hb6:6 < bn
 ·have hb6i:(6:Int) < (bn:Int):=by omega
  clear hb6;go_wp2_with fail;refine(Kh _ (HT.out.ext X6.out)).mono ?_;rintro e wt ⟨rfl,hxt⟩;have YT:=Qq (X6.out.trans hxt);clear hxt;go_wp2_with fail;go_ret;exact⟨rfl,YT.out⟩
 have hb6i:¬(6:Int) < (bn:Int):=by omega
 have HB6:=Qq hb6;have HE:=Qq (show Zd lg (Jp f)=0 by rw [Qo1 HLG.out,<-HBE.out]);have HC:=Qq (show Jr md f=0 from Qwc HBE.out.symm HG.out.ck (by rw [<-HLR.out,<-HLV.out];exact HFI.out.symm));clear hb6;go_wp2_with fail;refine(Ed _ f _ (HF.out.ext X6.out)).mono ?_;rintro e w7 ⟨u7,rfl,hm⟩;have F7:=Qq hm.fml;have X7:=Qq (X6.out.trans hm.2.2);have B7:=Qq ((hm.2.2.block (Qm B6.out)).trans B6.out);obtain⟨A7,c7,rfl,_⟩:=Qa F7.out;clear hm;obtain⟨re,hre⟩:∃z,z=Bf lg (Jp f):=⟨_,rfl⟩;have HRE:=Qq hre;clear hre;go_wp2_with fail;refine(Ln lg _ (Jp f) _ F7.out).mono ?_
 rintro e w8 ⟨hx,u8,rfl,he1,he2⟩;rw [<-HRE.out]at he1 he2⊢;have X8:=Qq (X7.out.trans hx);have B8:=Qq ((hx.block (Qm B7.out)).trans B7.out);obtain⟨zl,At,lt1,ct,Aw,lw,cw,rfl⟩:∃zl At lt1 ct Aw lw cw,u8=.agg #[.int .i64 zl,.slice At lt1 ct,.slice Aw lw cw]:=by
  by_cases h:re=0
  ·obtain⟨vt,vw,rfl,⟨A,c,rfl,_⟩,⟨A',c',rfl,_⟩⟩:=he2 h;exact⟨_,_,_,_,_,_,_,rfl⟩
  obtain⟨vt,vw,rfl,⟨A,c,rfl,_⟩,⟨A',c',rfl,_⟩⟩:=he1 h;exact⟨_,_,_,_,_,_,_,rfl⟩
 have HE2:=Qq he2;clear hx he1 he2;obtain⟨w9,hw9⟩:∃z,z=w8.alloc (.cells #[.int .i64 zl,.slice At lt1 ct,.slice Aw lw cw] 38):=⟨_,rfl⟩;obtain⟨b9,hb9⟩:∃z,z=w8.heap.size:=⟨_,rfl⟩;have E9:=Qq (show Ext w8 w9 by rw [hw9];exact Qz.alloc _);have C9:=Qq (show w9.heap[b9]?=some (.cells #[.int .i64 zl,.slice At lt1 ct,.slice Aw lw cw] 38 (0,0)) by rw [hw9,hb9];exact heap_alloc_new _ _);go_upto_region 7 with(fail);rw [<-hw9,<-hb9];clear hw9 hb9;have X9:=Qq (X8.out.trans E9.out);have B9:=Qq ((E9.out.block (Qm B8.out)).trans B8.out);obtain⟨e0,e1,e2,el⟩:=Xm B9.out;obtain⟨hs,hhs⟩:∃z,z=Fe md f:=⟨_,rfl⟩
 have HHS:=Qq hhs;clear hhs;go_wp2_with fail;refine(Od Oi _ _ md f _ (HM.out.ext X9.out) HOK.out (HF.out.ext X9.out)).mono ?_;rintro e w10 ⟨rfl,hx⟩;rw [if_pos HC.out,HC.out,<-HHS.out];have X10:=Qq (X9.out.trans hx);have E10:=Qq (E9.out.trans hx);have B10:=Qq ((hx.block (Qm B9.out)).trans B9.out);have C10:=Qq ((hx.block (Qm C9.out)).trans C9.out);clear hx e0 e1 e2 el;obtain⟨lf,hlf⟩:∃z,z=Kv lg (Jp f):=⟨_,rfl⟩;have HLF:=Qq hlf;clear hlf;cases lf
 ·obtain rfl:re=0:=by rw [HRE.out,Pt HE.out,<-HLF.out];rfl
  have hel:=HE2.out rfl;obtain rfl:zl=lg:=by
   obtain⟨_,_,e,_⟩:=hel;injection e with e;injection e with e;injection e with e _;injection e
  have HEL:=Qq hel;clear hel;have HHA:=Qq (show hs=Zl md.n.toNat by rw [HHS.out];exact Qwp HE.out HLF.out.symm HG.out HC.out);obtain⟨k,hk⟩:=Int.eq_ofNat_of_zero_le (show 0<=md.n by have:=(Jv HG.out.ck).1;omega);have hk64:k<=64:=by have:=(Jv HG.out.ck).2.1;omega
  obtain rfl:n=(k:Int):=by rw [HN.out,hk]
  have HAL:=Qq (show((hs:Int)==((Zl k:Nat):Int))=true by rw [HHA.out,hk,Int.toNat_natCast];simp);have hll:(zl==zl)=true:=by simp
  have hal:=HAL.out;obtain⟨al,hald⟩:∃z,z=Zl k:=⟨_,rfl⟩;have HALL:=Qq (Ef k hk64);rw [<-hald]at hal HALL;have HCE:=Qq (Qtd HE.out HLF.out.symm);have HWS:=Qq (Qpi (lg:=zl) (f:=Jp f) (by rw [<-HBN.out];have:=HB6.out;omega));clear hk hald;obtain⟨e0,e1,e2,el⟩:=Xm B10.out;obtain⟨d0,d1,d2,dl⟩:=Xm C10.out;go_upto_region 11 with(fail);refine Vb 21 (fun w'=>w'.cell? (⟨b,0,none⟩)=some (.int .i64 (k:Int))/\w'.cell? (⟨b9,0,none⟩)=some (.int .i64 zl)/\w'.cell? (⟨b9,1,none⟩)=some (.slice At lt1 ct)/\w'.cell? (⟨b9,2,none⟩)=some (.slice Aw lw cw)) (by kernel_rfl) ⟨xd el e0,xd dl d0,xd dl d1,xd dl d2⟩ (fun hHeld=> ?_)
  refine utk 0 hHeld ?_;refine utk 1 hHeld ?_;refine utk 2 hHeld ?_;refine utk 3 hHeld ?_;refine utk 4 hHeld ?_;refine utk 5 hHeld ?_;refine utk 6 hHeld ?_;refine utk 7 hHeld ?_;refine Zs (rs:= [8]) (by kernel_rfl) (by simp) ?_;refine Za.cons rfl (fun K hK=> ?_) Za.nil;go_simp;refine(HALL.out _).mono ?_;rintro e y8 ⟨rfl,rfl⟩;go_wp2_with fail;refine hK.out _ _ ⟨xd el e0,xd dl d0,xd dl d1,xd dl d2⟩ (fun hHeld=> ?_);clear hK K;refine Qb ?_;refine utk 9 hHeld ?_;refine utk 10 hHeld ?_;refine utk 11 hHeld ?_;refine utk 12 hHeld ?_;refine utk 14 hHeld ?_;refine Zs (rs:= [13]) (by kernel_rfl) (by simp) ?_
  refine Za.cons rfl (fun K hK=> ?_) Za.nil;go_simp;refine(Ed _ f _ (HF.out.ext (X10.out.trans xv))).mono ?_;rintro e y13 ⟨u13,rfl,hm⟩;have F13:=Qq hm.fml;have hx13:Ext w10 y13:=Ext.trans xv hm.2.2;obtain⟨A13,c13,rfl,_⟩:=Qa F13.out;clear hm;go_wp2_with fail;refine hK.out _ _ ⟨xd el e0,xd dl d0,xd dl d1,xd dl d2⟩ (fun hHeld=> ?_);clear hK K;refine Qb ?_;refine Zs (rs:= [15]) (by kernel_rfl) (by simp) ?_;refine Za.cons rfl (fun K hK=> ?_) Za.nil;go_simp;refine(Qnw zl _ _ _ _ (Jp f) _ F13.out (HEL.out.ext (E10.out.trans hx13)) HWS.out).mono ?_;rintro e y15 ⟨rfl,hh⟩
  rw [HCE.out];have hx15:Ext w10 y15:=hx13.trans hh;clear hh;go_wp2_with fail;refine hK.out _ _ ⟨xd el e0,xd dl d0,xd dl d1,xd dl d2⟩ (fun hHeld=> ?_);clear hK K;refine Qb ?_;refine utk 16 hHeld ?_;refine utk 17 hHeld ?_;refine utk 18 hHeld ?_;refine Zs (rs:= [19]) (by kernel_rfl) (by simp) ?_;refine Za.cons rfl (fun K hK=> ?_) Za.nil;go_simp;refine(Kh _ (HT.out.ext (X10.out.trans hx15))).mono ?_;rintro e y19 ⟨rfl,hh⟩;have hx19:Ext w10 y19:=hx15.trans hh;clear hh;go_wp2_with fail;refine hK.out _ _ ⟨xd el e0,xd dl d0,xd dl d1,xd dl d2⟩ (fun hHeld=> ?_);clear hK K;refine Qb ?_
  refine utk 20 hHeld ?_;refine Vk (by kernel_rfl) rfl (fun K hK=> ?_);go_simp;refine hK.out _ _ ?_;clear hK K;refine Qb ?_;refine Vv (by kernel_rfl) ?_ _;go_wp2_with fail;go_ret;exact⟨rfl,X10.out.trans hx19⟩
 obtain rfl:re=15:=by rw [HRE.out,Pt HE.out,<-HLF.out];rfl
 go_wp2_with fail;refine(Ed _ f _ (HF.out.ext X10.out)).mono ?_;rintro e w11 ⟨u11,rfl,hm⟩;have F11:=Qq hm.fml;have X11:=Qq (X10.out.trans hm.2.2);obtain⟨A11,c11,rfl,_⟩:=Qa F11.out;clear hm;go_wp2_with fail;refine(Ql2 lg _ (Jp f) _ F11.out).mono ?_;rintro e w12 ⟨hx,hres⟩;obtain⟨vm,mo,S,rfl,hmo,hmok,hmm⟩:∃vm mo S,e=.returned (.tuple #[vm,.int .i64 0,.int .i64 0])/\MdV w12 vm mo/\mo.ok/\Qy9 lg (Jp f) S mo:=by
  rcases hres with⟨h,_⟩|⟨_,h,_⟩|⟨_,_,h⟩|⟨_,_,h,_⟩
  ·exact absurd HE.out h
  ·rw [<-HLF.out]at h;cases h
  ·exact h
  exact absurd (by rw [HBN.out];exact h) HB6.out
 have HCM:=Qq (Zq0 HE.out hmm);have HTM:=Qq (Qwh HCM.out);have HMO:=Qq hmo;have HMOK:=Qq hmok;have X12:=Qq (X11.out.trans hx);obtain⟨Bv,bl,bc,Br,rl,rc,rfl⟩:=Qcl hmo;obtain⟨nm,hnm⟩:∃z,z=mo.n:=⟨_,rfl⟩;have hnm1:(0:Int) < nm:=by
  have:=(Jv HCM.out.good.ck).1;omega
 rw [<-hnm]at HMO⊢;clear hx hres hmo hmok hmm hnm;obtain⟨w13,hw13⟩:∃z,z=w12.alloc (.cells #[.int .i64 nm,.slice Bv bl bc,.slice Br rl rc] 26):=⟨_,rfl⟩;obtain⟨b13,hb13⟩:∃z,z=w12.heap.size:=⟨_,rfl⟩;have E13:=Qq (show Ext w12 w13 by rw [hw13];exact Qz.alloc _);have B13:=Qq (show w13.heap[b13]?=some (.cells #[.int .i64 nm,.slice Bv bl bc,.slice Br rl rc] 26 (0,0)) by rw [hw13,hb13];exact heap_alloc_new _ _);go_upto_region 13 with(fail);rw [<-hw13,<-hb13];clear hw13 hb13;have X13:=Qq (X12.out.trans E13.out);obtain⟨d0,d1,d2,dl⟩:=Xm B13.out;obtain⟨ht,hht⟩:∃z,z=Fe mo f:=⟨_,rfl⟩;have HHT:=Qq hht;clear hht
 go_wp2_with fail;refine(Od Oi _ _ mo f _ (HMO.out.ext E13.out) HMOK.out (HF.out.ext X13.out)).mono ?_;rintro e w14 ⟨rfl,hx⟩;rw [if_pos HTM.out.1,HTM.out.1,<-HHT.out];have X14:=Qq (X13.out.trans hx);have B14:=Qq ((hx.block (Qm B13.out)).trans B13.out);clear hx d0 d1 d2 dl;obtain⟨d0,d1,d2,dl⟩:=Xm B14.out;have hbit:bits .and .u64 (ht:Int) 1=0:=by
  have h1:=Qs7 (k:=0) (show Zj ht from by rw [HHT.out];exact Qy (Qkq HCM.out.good.ck f) (Nr (by have:=(Jv HCM.out.good.ck).2.1;omega)));rw [HHT.out,HTM.out.2]at h1;rw [HHT.out]
  simpa using h1
 go_wp2_with fail;refine(Kh _ (HT.out.ext X14.out)).mono ?_;rintro e wt ⟨rfl,hxt⟩;have YT:=Qq (X14.out.trans hxt);clear hxt;go_wp2_with fail;go_ret;exact⟨rfl,YT.out⟩
open Go.ChangeShapes Go.WideShapes Go.ChangeAt Go.Joins
theorem Qrd {H:Type} {enc:TypeId×Value->H} {w:World} {spare:Nat->Bool} {held:Bool} {v:Value} {d:DataW H} {p:List MemPlace}(h:DataW.Trod enc Tryz.prog w 0 spare held 22 v d p)(hv:∃a len cap,v=.slice a len cap):∃l,Fml w v l:=by
 obtain⟨a,len,cap,rfl⟩:=hv;obtain⟨fuel,hf⟩:=h;exact Qbs hf
theorem Qg4:laidOutB Tryz.prog=true:=by kernel_rfl
theorem own:ownKnob Tryz.prog.godebug=none:=by kernel_rfl
theorem Qph(os:Os)(args:Array Value):laidMetH Tryz.prog [("math/bits.deBruijn64tab",Rows.laid_math_bits_deBruijn64tab)] ((World.doorLaid Tryz.prog 600 os).forCall (fun _ _=>0) ⟨#[],args,[]⟩).memory:=by
 rw [Go.MakeChecks.laidMetH_plain _ _ _ rfl];exact laidMet_of_run' 8 (by kernel_rfl) (by kernel_rfl)
theorem Ei(os:Os)(started:os.Started)(H:Type)(enc:TypeId×Value->H):
 ReturnsInHanded {} Tryz.checked os 3 .any (fun w args=>(Rows.topTypesTrueSpec.pre enc Tryz.prog Tryz.f3 [] false w args/\laidMetH Tryz.prog [("math/bits.deBruijn64tab",Rows.laid_math_bits_deBruijn64tab)] w)/\sizedMet enc Tryz.prog Tryz.f3 (OpenSpec.ofChange Rows.topTypesTrueSpec) false w args)
  (Rows.topTypesTrueSpec.post enc Tryz.prog Tryz.f3 false true false false):=by
 refine returnsInHanded_of_change_and (C:=Tryz.checked) (X:=fun w _=>laidMetH Tryz.prog [("math/bits.deBruijn64tab",Rows.laid_math_bits_deBruijn64tab)] w) (fun _ _ _ hh h=>h.of_heap hh) own started (by kernel_rfl) Tryz.func3
  (ChangeSpec.witness_shaped (enc:=enc) (C:=Tryz.checked) (os:=os) (X:=fun w _=>laidMetH Tryz.prog [("math/bits.deBruijn64tab",Rows.laid_math_bits_deBruijn64tab)] w) false (World.doorLaid Tryz.prog 600 os) #[.int .i64 0,.slice none 0 0,.agg #[.int .i64 0,.slice none 0 0,.slice none 0 0]] 8 rfl (World.shaped_of_RefB (by kernel_rfl) (by kernel_rfl)) (by kernel_rfl) (by kernel_rfl) (by kernel_rfl) (Qph os _)) ?_
 intro W base args ds gs before hval0 hW _ _ hL _;have hval:∀(j:Nat) t v,Tryz.f3.params[j]?=some t->args[j]?=some v->Value.okWide Tryz.prog W .any base t v:=hval0;have hTAB:=Qf0 hL;have hW':=hW;obtain⟨p,q,hA0,hV,rfl,hfz,hnd⟩:=hW;have hA:DataW.TrodAll enc Tryz.prog W 0 (fun _=>true) true Tryz.f3.params.toList args.toList ds p:=hA0;rw [Tryz.params3]at hA hval;obtain⟨v0,vs0,d0,ds0,p0,q0,hargs,rfl,rfl,h0,r0⟩:=trodAll_cons hA;obtain⟨v1,vs1,d1,ds1,p1,q1,rfl,rfl,rfl,h1,r1⟩:=trodAll_cons r0;obtain⟨v2,vs2,d2,ds2,p2,q2,rfl,rfl,rfl,h2,r2⟩:=trodAll_cons r1;obtain⟨rfl,rfl,rfl⟩:=trodAll_nil r2;obtain rfl:args=#[v0,v1,v2]:=by cases args;simp_all
 obtain⟨rfl,rfl⟩:=trodVars_none hV;obtain⟨z0,rfl,rfl,rfl,wz0⟩:=open_int Tryz.underlying3 (hval 0 3 v0 rfl rfl) h0;obtain⟨f1,hf1⟩:=Qrd h1 (okWide_slice Tryz.underlying22 (hval 1 22 v1 rfl rfl));obtain⟨md2,hm2,mo2⟩:=Qle (hval 2 26 v2 rfl rfl) h2;simp only [List.append_nil]at hW';clear hA0 hval0;refine(Qf1 (lg:=z0) hf1 hm2 mo2 hTAB).mono ?_;rintro e W' ⟨rfl,hx⟩;have hlt:∀x∈p1++p2,x.block < W.heap.size:=fun x hx'=>hW'.lt x hx'
 refine⟨_,rfl,Qxg (pa:=p1++p2) (pv:= []) hW' (fun _ _ _=>trodAll_mk1 (shut_bool Tryz.underlying4 _)) (fun sp hsp=> ?_) (fun _ _=>rfl) (by simp) hx (ok_one (by kernel_rfl) rfl (okWide_bool_mk Tryz.underlying4 _))⟩;have ht:=(trodAll_cons_mk (shut_int Tryz.underlying3 wz0) (trodAll_cons_mk (WideElems.Trod_stays Qg4 (by kernel_rfl) (of_decide_eq_true (by kernel_rfl)) h1 (fun x hx'=>hx.same (hlt x (by simp [hx']))) (fun x hx'=>hsp x (by simp [hx']))) (trodAll_cons_mk (WideElems.Trod_stays Qg4 (by kernel_rfl) (of_decide_eq_true (by kernel_rfl)) h2 (fun x hx'=>hx.same (hlt x (by simp [hx']))) (fun x hx'=>hsp x (by simp [hx']))) trodAll_mk0)))
 simp only [List.append_nil,List.nil_append]at ht;exact ht
theorem Qqi:Rows.TopTypesTrueSaid :=
 OpenClaim.holds_of_wide 3 Tryz.f3 rfl rfl rfl rfl rfl rfl rfl ⟨rfl,rfl,rfl,rfl,rfl⟩ rfl rfl rfl rfl rfl (by kernel_rfl) Tryz.func3 (by kernel_rfl)
  (of_decide_eq_true (by kernel_rfl)) (by unfold Func.isWrapper;first|(rw [if_pos (by decide+kernel)];kernel_rfl)|(rw [if_neg (by decide+kernel)];exact⟨rfl,rfl⟩))
  (fun os started H enc _=>Ei os started H enc)
theorem Iz(f:FuncId)(fn:Func)(hf:Tryz.pinned.checked.prog.funcNamed "witting/wittingtop.TopTypesTrue" =some f)(hfn:Tryz.pinned.checked.prog.funcs[f]?=some fn):
 false=Tryz.pinned.checked.prog.looks []/\∀(j:Nat) t,fn.params[j]?=some t->Tryz.pinned.checked.prog.wantsStandIn t=false:=by
 obtain rfl:f=3:=Option.some.inj ((show Tryz.prog.funcNamed "witting/wittingtop.TopTypesTrue" =some 3 by kernel_rfl).symm.trans hf)|>.symm;obtain rfl:fn=Tryz.f3:=(Option.some.inj (Tryz.func3.symm.trans hfn)).symm;refine⟨by kernel_rfl,fun j t ht=> ?_⟩;rw [Tryz.params3]at ht;have hm:t∈ #[(3:TypeId),(22:TypeId),(26:TypeId)]:=Array.mem_of_getElem? ht;simp only [List.mem_toArray,List.mem_cons,List.not_mem_nil,or_false]at hm;rcases hm with rfl|rfl|rfl
 ·exact(show Tryz.prog.wantsStandIn 3=false by kernel_rfl)
 ·exact(show Tryz.prog.wantsStandIn 22=false by kernel_rfl)
 exact(show Tryz.prog.wantsStandIn 26=false by kernel_rfl)
theorem topTypesTrue_card:Rows.TopTypesTrueCardSaid :=
 Claim7.holds_tied_plain_at .later [] _ _ _ _ Qqi (fun _ h=>by cases h) (by kernel_rfl) (fun _ h=>by cases h) topTypesTrue_row_tie rfl ⟨rfl,rfl⟩ (by kernel_rfl) rfl Iz (by kernel_rfl)
end Go.Proofs.YtkmclcmnoicagaaGreatDoor
