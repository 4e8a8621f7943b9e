/- The program's Shrink. -/
import Derived.Test.YtkmclcmnoicagaaGreatDoorM01
import Derived.Test.YtkmclcmnoicagaaGreatDoorM41
import Derived.Test.YtkmclcmnoicagaaGreatDoorM45
import Derived.Test.YtkmclcmnoicagaaGreatDoorM09
namespace Go.Proofs.YtkmclcmnoicagaaGreatDoor
set_option maxRecDepth 100000
set_option maxHeartbeats 128000000
open Go.RowKit
def ShC(lo b:Nat)(wr:World)(md:Md):Prop:=∃A c A' c',wr.heap[b]?=some (.cells #[.int .i64 md.n,.slice A md.val.length c,.slice A' md.rel.length c'] 26 (0,0))/\
 Frz (fun k=>k < lo) wr (fun W=>MdV W (.agg #[.int .i64 md.n,.slice A md.val.length c,.slice A' md.rel.length c']) md)
theorem ShC.ext {lo b:Nat} {w w':World} {md:Md}(h:ShC lo b w md)(he:Ext w w'):ShC lo b w' md:=by
 obtain⟨A,c,A',c',h1,h2⟩:=h;exact⟨A,c,A',c',(he.block (Qf h1)).trans h1,h2.next (Yr.of_ext he) (fun _ _ h=>h)⟩
theorem ShC.put {lo lo' b:Nat} {w:World} {md:Md} {u:Value} {a0 a1 a2:Value}(hu:Frz (fun k=>k < lo') w (fun W=>MdV W u md))(hlo:lo<=lo')(hb:b < lo)(hc:w.heap[b]?=some (.cells #[a0,a1,a2] 26 (0,0))):
 ∃A c A' c',u=.agg #[.int .i64 md.n,.slice A md.val.length c,.slice A' md.rel.length c']/\ShC lo b (((w.setCell ⟨b,0,none⟩ (.int .i64 md.n)).setCell ⟨b,1,none⟩ (.slice A md.val.length c)).setCell ⟨b,2,none⟩ (.slice A' md.rel.length c')) md:=by
 obtain⟨vv,vr,rfl,⟨A,c,rfl,_⟩,⟨A',c',rfl,_⟩⟩:=hu.here;refine⟨A,c,A',c',rfl,A,c,A',c',Jh hc _ _ _,hu.keep hlo (by simp [World.setCell]) (fun k h1 _=>Vd (by omega) _ _ _)⟩
def Qv2(lg:Int)(f:List Nd)(md:Md)(wd:Int)(md':Md)(k':Nat):Prop :=
 (cmN lg f md wd≠0/\md'=⟨0,[],[]⟩/\k'=0)\/(cmN lg f md wd=0/\∃k out:Nat,wd=(k:Int)/\Sa md (2^k) out/\Sx lg f (Jp md (Zc out)) (Xx out k) md' k')
theorem Qe8 {k n:Nat}(hk:k < n):Ym (2^k) (Zx n)=true:=Yd.2 fun i hi=>by
 rw [Nat.testBit_two_pow,decide_eq_true_iff]at hi;rw [Vl,<-hi,decide_eq_true hk]
theorem Do(lg:Int)(v vm:Value)(f:List Nd)(md:Md)(wd:Int)(w:World)(hT:Vf w)(h:Fml w v f)(hm:MdV w vm md)(hok:md.ok):
 Calls Tryz.prog 29 #[.int .i64 lg,v,vm,.int .i64 wd] w fun e w'=>∃u md' k',e=.returned (.tuple #[u,.int .i64 ((k':Nat):Int),.int .i64 (cmN lg f md wd)])/\Qv2 lg f md wd md' k'/\Ext w w'/\Frz (fun k=>k < w.heap.size) w' (fun W=>MdV W u md'):=by
 have HM:=Qq hm;have HOK:=Qq hok;have HT:=Qq hT;have HF:=Qq h;obtain⟨vv,vr,rfl,⟨Av,cv,rfl,_⟩,⟨Ar,cr,rfl,_⟩⟩:=hm;obtain⟨Af,cf,rfl,_⟩:=Qm h;obtain⟨N,hN⟩:∃n,n=md.n:=⟨_,rfl⟩;have HN:=Qq hN;rw [<-hN]at HM⊢;obtain⟨lv,hlv⟩:∃n,n=md.val.length:=⟨_,rfl⟩;obtain⟨lr,hlr⟩:∃n,n=md.rel.length:=⟨_,rfl⟩;rw [<-hlv,<-hlr]at HM⊢;obtain⟨ec,hec⟩:∃z,z=cmN lg f md wd:=⟨_,rfl⟩;have HEC:=Qq hec;rw [<-hec];obtain⟨W0,hW0⟩:∃W,W=(w.alloc (.cells #[.int .i64 N,.slice Av lv cv,.slice Ar lr cr] 26)).alloc (.cells #[.int .i64 0,.slice none 0 0,.slice none 0 0] 26):=⟨_,rfl⟩;have X0:=Qq (show Ext w W0 by rw [hW0];exact(Qz.alloc _).alloc _)
 obtain⟨b,hb⟩:∃b,b=w.heap.size:=⟨_,rfl⟩;have B0:=Qq (show W0.heap[b]?=some (.cells #[.int .i64 N,.slice Av lv cv,.slice Ar lr cr] 26 (0,0)) by rw [hW0,hb];exact((Qz.alloc _).block (by simp)).trans (heap_alloc_new _ _));have B1:=Qq (show W0.heap[b+1]?=some (.cells #[.int .i64 0,.slice none 0 0,.slice none 0 0] 26 (0,0)) by
  have h1:=heap_alloc_new (w.alloc (.cells #[.int .i64 N,.slice Av lv cv,.slice Ar lr cr] 26)) (.cells #[.int .i64 0,.slice none 0 0,.slice none 0 0] 26);rw [hW0,hb]
  simpa using h1)
 have HLO:=Qq (show w.heap.size<=b by omega);clear hT h hok hN hlv hlr hec;obtain⟨e0,e1,e2,el⟩:=Zd B0.out;go_enter Tryz.func29,Tryz.ntmps29;go_wp2_with fail;rw [<-hW0,<-hb];clear hW0 hb;go_step3;go_wp2_with fail;refine(Ys lg _ _ f md wd _ (HT.out.ext X0.out) (HF.out.ext X0.out) (HM.out.ext X0.out) HOK.out).mono ?_;rintro e w1 ⟨rfl,hx⟩;rw [<-HEC.out];have HX1:=Qq hx;have HBR:=Qq ((hx.block (Qf B1.out)).trans B1.out);clear e0 e1 e2 el hx;by_cases hz:ec=0
 case neg =>
  have hne:(ec !=0)=true:=by simpa using hz
  have HS:=Qq (show Qv2 lg f md wd ⟨0,[],[]⟩ 0 from .inl ⟨by rw [<-HEC.out];exact hz,rfl,rfl⟩);obtain⟨⟨r0,r1,r2⟩,⟨g0,g1,g2⟩,rl⟩:=Zt HBR.out;clear hz;go_wp2_with fail
  (try simp only [Exit.noGoto_ret])
  refine bodyPost_ret (Yt Tryz.results29 _ _ rfl (Zl (Jh HBR.out _ _ _)) Tryz.underlying26 rfl (by kernel_rfl)) rfl ?_;exact⟨_,_,0,rfl,HS.out,Jc (X0.out.trans HX1.out) (Nat.le_succ_of_le HLO.out) _ _ _,fun W _=>Gk _⟩
 subst hz;obtain⟨k,rfl,hcm⟩:=Kc.1 HEC.out.symm;have HCM:=Qq hcm;have hn64:=(Zv hcm.good.ck).2.1;have hkn:=hcm.lt;have hk64:k < 64:=by omega
 have hk1:(k:Int) < 64:=by omega
 have hmk:min k 64=k:=by omega
 have hwk:=Ov hk64;have hwa:=Cj hk64;have HOS:=Qq (Qe8 hkn);have HTWW:=Qq (Qyd hk64);have HCL:=Qq (fun s:Nat=>Qa8 (s:=s) (w:=k) (by omega));obtain⟨tw2,htk⟩:∃z,z=2^k:=⟨_,rfl⟩;rw [<-htk]at hwk HOS HTWW;have HTK:=Qq htk;obtain⟨ak,hak⟩:∃z,z=2^k - 1:=⟨_,rfl⟩;rw [<-hak]at hwa HCL;rw [hwk]at hwa;have HAW:=Qq (show Qw ak by rw [hak,<-htk];exact Nat.lt_of_le_of_lt (Nat.sub_le _ _) HTWW.out);obtain⟨e0,e1,e2,el⟩:=Zd ((HX1.out.block (Qf B0.out)).trans B0.out);clear hcm hn64 hkn htk hak;go_upto_region 4 with(fail);refine wp_region_held_drew (S:=fun w'=>w'.cell? (⟨b,0,none⟩)=some (.int .i64 N)/\w'.cell? (⟨b,1,none⟩)=some (.slice Av lv cv)/\w'.cell? (⟨b,2,none⟩)=some (.slice Ar lr cr)) (by kernel_rfl) ⟨xc el e0,xc el e1,xc el e2⟩ (fun hHeld=> ?_)
 refine tk 0 hHeld ?_;refine tk 1 hHeld ?_;refine tk 2 hHeld ?_;refine wpAnyH_ready (rs:= [3]) (by kernel_rfl) (by simp) ?_;refine AllReadyH.cons rfl (fun K hK=> ?_) AllReadyH.nil;go_simp;refine(Qgj _ md tw2 _ (HT.out.ext (X0.out.trans (HX1.out.trans xw))) (HM.out.ext (X0.out.trans (HX1.out.trans xw))) HOK.out HCM.out.good.ck HOS.out HTWW.out).mono ?_;rintro e w4 ⟨out,rfl,hgs,how,hx0⟩;have hx:Ext w1 w4:=Ext.trans xw hx0;have HGS:=Qq hgs;have HOW:=Qq how;clear hgs how hx0;go_wp2_with fail;refine hK.out _ _ ⟨xc el e0,xc el e1,xc el e2⟩ (fun hHeld=> ?_);clear hK K;refine Qd ?_;refine tk 4 hHeld ?_
 refine tk 5 hHeld ?_;refine tk 6 hHeld ?_;refine tk 7 hHeld ?_;refine tk 8 hHeld ?_;refine wpAnyH_done (by kernel_rfl) ?_ _;have HX4:=Qq (show Ext w1 w4 from hx);clear e0 e1 e2 el hHeld hx;have HGK:=Qq (show Sa md (2^k) out from by rw [<-HTK.out];exact HGS.out);have HPT:=Qq (Sa.part HGK.out HCM.out);have HRE:=Qq (show Bc md out=0 from by
  have h1:=HPT.out.2.2;have h2:out≠0:=fun e=>by
   have:=HGK.out.sub k (by rw [Nat.testBit_two_pow];simp);rw [e,Nat.zero_testBit]at this;cases this
  unfold Bc;rw [if_neg (by rw [HCM.out.good.ck];simp),if_neg,if_neg h2];rw [show Ym out (Zx md.n.toNat)=true from Yd.2 fun i hi=>by rw [Vl,decide_eq_true (Ky h1 hi)]]
  simp)
 obtain⟨e0,e1,e2,el⟩:=Zd (((HX1.out.trans HX4.out).block (Qf B0.out)).trans B0.out);go_wp2_with fail;refine(Ny _ md out _ HOW.out (HT.out.ext (X0.out.trans (HX1.out.trans HX4.out))) (HM.out.ext (X0.out.trans (HX1.out.trans HX4.out))) HOK.out HRE.out).mono ?_;rintro e w5 ⟨vr,vl,rfl,hx,hfz⟩;have HX5:=Qq (HX1.out.trans (HX4.out.trans hx));have h05:=X0.out.size;have h15:=HX1.out.size;have h45:=HX4.out.size;have HB5:=Qq ((HX5.out.block (Qf B0.out)).trans B0.out);have HB6:=Qq ((HX5.out.block (Qf B1.out)).trans B1.out);obtain⟨A3,c3,hv3,_⟩:=hfz.here.2;have hlb:=Qf B1.out
 have hput:=ShC.put (lo:=W0.heap.size) (b:=b) (md:=Jp md (Zc out)) (u:=vr) (fun W hW=>(hfz W hW).1) (by omega) (by omega) HB5.out;obtain⟨A1,c1,A2,c2,hu,hsc⟩:=hput;subst hu hv3;obtain⟨md1,hmd1⟩:∃z,z=Jp md (Zc out):=⟨_,rfl⟩;have HMD1:=Qq hmd1;rw [<-hmd1]at hsc⊢;have HSC:=Qq hsc;obtain⟨⟨q0,q1,q2⟩,⟨f0,f1,f2⟩,ql⟩:=Zt HB5.out;obtain⟨l1,hl1⟩:∃z,z=md1.n:=⟨_,rfl⟩;obtain⟨l2,hl2⟩:∃z,z=md1.val.length:=⟨_,rfl⟩;obtain⟨l3,hl3⟩:∃z,z=md1.rel.length:=⟨_,rfl⟩;rw [<-hl1,<-hl2,<-hl3]at HSC⊢;have hab:=Ud HOW.out HAW.out;obtain⟨sk,hsk⟩:∃z,z=out&&&ak:=⟨_,rfl⟩;rw [<-hsk]at hab;have HSK:=Qq (show Xx sk 64=Xx out k by rw [hsk];exact HCL.out out)
 have HSKW:=Qq (show Qw sk by rw [hsk];exact Nat.lt_of_le_of_lt Nat.and_le_right HAW.out);have HXP:=Qq (show Ext w (((w5.setCell ⟨b,0,none⟩ (.int .i64 l1)).setCell ⟨b,1,none⟩ (.slice A1 l2 c1)).setCell ⟨b,2,none⟩ (.slice A2 l3 c2))from Jc (X0.out.trans HX5.out) HLO.out _ _ _);have HBP:=Qq (show(((w5.setCell ⟨b,0,none⟩ (.int .i64 l1)).setCell ⟨b,1,none⟩ (.slice A1 l2 c1)).setCell ⟨b,2,none⟩ (.slice A2 l3 c2)).heap[b+1]?=some (.cells #[.int .i64 0,.slice none 0 0,.slice none 0 0] 26 (0,0))from(Vd (by omega) _ _ _).trans HB6.out);have HSZ:=Qq hlb;clear hx hfz hsc e0 e1 e2 el h05 h15 h45 hlb hmd1 hsk hl1 hl2 hl3
 go_wp2_with fail;refine(Qc9 sk HSKW.out _).mono ?_;rintro e w6 ⟨rfl,rfl⟩;rw [HSK.out];clear q0 q1 q2 f0 f1 f2 ql hab hwa hwk;obtain⟨w6,hw6⟩:∃z,z=(((w5.setCell ⟨b,0,none⟩ (.int .i64 l1)).setCell ⟨b,1,none⟩ (.slice A1 l2 c1)).setCell ⟨b,2,none⟩ (.slice A2 l3 c2)):=⟨_,rfl⟩;rw [<-hw6]at HSC HXP HBP⊢;have HW6:=Qq hw6;have HCM1:=Qq (show Xk lg f md1 (Xx out k) by rw [HMD1.out];exact HPT.out.1);obtain⟨k1,hk1⟩:∃z,z=Xx out k:=⟨_,rfl⟩;have HK1:=Qq hk1;rw [<-hk1]at HCM1⊢;clear hw6 hk1 hmk hk64 HOS HTWW HTK HAW HSK HSKW HRE;go_wp2_with fail;go_step3;go_wp2_with fail;obtain⟨lo,hlo⟩:∃z,z=W0.heap.size:=⟨_,rfl⟩
 have HLOB:=Qq (show b+1 < lo by rw [hlo];exact HSZ.out);have HLW:=Qq (show lo<=w6.heap.size by rw [hlo,HW6.out];have:=X0.out.size;have:=HX5.out.size;simp [World.setCell];exact HX5.out.size);rw [<-hlo]at HSC;clear hlo;go_loopw [3] (fun v3 wr=>∃kc:Nat,v3=.int .i64 (kc:Int)/\kc < 64/\Hid (lo<=wr.heap.size/\∃mdc,ShC lo b wr mdc/\Ext w wr/\Xk lg f mdc kc/\wr.heap[b+1]?=some (.cells #[.int .i64 0,.slice none 0 0,.slice none 0 0] 26 (0,0))/\∀md' k',Sx lg f mdc kc md' k'->Sx lg f md1 k1 md' k')) (fun _ wr=>(intOf ((wr.cell? ⟨b,0,none⟩).getD undef)).toNat)
 case atStart=>exact⟨k1,rfl,by have:=HCM1.out.lt;have:=(Zv HCM1.out.good.ck).2.1;omega,Qq ⟨HLW.out,md1,HSC.out,HXP.out,HCM1.out,HBP.out,fun _ _ h=>h⟩⟩
 case round =>
  clear HSC HXP HBP HSZ HCM1 HPT HX4 HX5 HB5 HB6 B0 B1 HX1 HBR HGS HCL HLW HW6;obtain⟨kc,rfl,hkc64,HREL⟩:=hrel;obtain⟨hlw,mdc,hsc,hx,hcm,hbp,hsh⟩:=HREL.out;have HLW:=Qq hlw;have HSC:=Qq hsc;have HX:=Qq hx;have HCM:=Qq hcm;have HBP:=Qq hbp;have HSH:=Qq hsh;obtain⟨A,c,A',c',hbc,hfz⟩:=hsc;have HBC:=Qq hbc;have HFZ:=Qq hfz;obtain⟨hc1,hc64,_⟩:=Zv hcm.good.ck;obtain⟨n,hn⟩:=Int.eq_ofNat_of_zero_le (show 0<=mdc.n by omega);have hnt:mdc.n.toNat=n:=by rw [hn];exact Int.toNat_natCast n
  have HNT:=Qq hnt;have hn64:n<=64:=by omega
  have hkcn:kc < n:=by have:=hcm.lt;omega
  rw [hn]at HBC HFZ;obtain⟨m2,hm2⟩:∃z,z=mdc.val.length:=⟨_,rfl⟩;obtain⟨m3,hm3⟩:∃z,z=mdc.rel.length:=⟨_,rfl⟩;rw [<-hm2,<-hm3]at HBC HFZ;clear HREL hlw hx hcm hbp hsh hbc hfz hc1 hc64 hn hnt hm2 hm3;obtain⟨e0,e1,e2,el⟩:=Zd HBC.out;obtain⟨wa,hwa⟩:∃v,v=wr:=⟨_,rfl⟩;subst hwa;go_wp2_with fail;clear e0 e1 e2 el;go_loopw [3,14] (fun v3 v14 wr=>v3=.int .i64 (kc:Int)/\∃z:Int,v14=.int .i64 z/\ -1<=z/\z < n/\Hid (Ext wa wr/\∀u:Nat,z < u->u < n->u≠kc->cmN lg f (Fy mdc u) (Kx kc u:Nat)≠0)) (fun _ v _=>(intOf v+1).toNat)
  case atStart=>exact⟨rfl,(n:Int) - 1,rfl,by omega,by omega,Qq ⟨Qz,fun u h1 h2=>by omega⟩⟩
  case round =>
   obtain⟨rfl,z,rfl,hz0,hz1,HREL⟩:=hrel;have HXB:=Qq HREL.out.1;have HJ:=Qq HREL.out.2;clear HREL;obtain⟨e0,e1,e2,el⟩:=Zd ((HXB.out.block (Qf HBC.out)).trans HBC.out);by_cases hz:0<=z
   ·obtain⟨j,rfl⟩:=Int.eq_ofNat_of_zero_le hz;clear hz;by_cases hjk:j=kc
    ·have heq:((j:Int)==(kc:Int))=true:=by rw [hjk];simp
     have HJK:=Qq hjk;clear hjk;go_wp2_with fail;go_roundw
     case rel=>exact⟨by first|rfl|trivial,(j:Int) - 1,rfl,by omega,by omega,Qq ⟨HXB.out,fun u h1 h2 h3=>by
      by_cases e:u=j
      ·exact absurd (e.trans HJK.out) h3
      exact HJ.out u (by omega) h2 h3⟩⟩
     case measure=>simp [intOf] <;> omega
    have heq:((j:Int)==(kc:Int))=false:=by rw [beq_eq_false_iff_ne];omega
    have HJK:=Qq hjk;have HJN:=Qq (show j < mdc.n.toNat by rw [HNT.out];omega);clear hjk;go_wp2_with fail;refine(Qd3 _ mdc j kc _ (HT.out.ext (HX.out.trans HXB.out)) (HFZ.out _ (Yr.of_ext HXB.out)) (Ll HCM.out.good.ck) HCM.out.good.ck HJN.out HCM.out.lt HJK.out).mono ?_;rintro e w3 ⟨u,rfl,hx3,hf3⟩;have HF3:=Qq hf3;obtain⟨dr,hdr⟩:∃z,z=Fy mdc j:=⟨_,rfl⟩;have HDR:=Qq hdr;have HDN:=Qq (show dr.n=(n:Int) - 1 by
     rw [hdr];show((Zc (Jz (Zx mdc.n.toNat) (2^j))).length:Int)=_;have h1:=HNT.out;rw [Qjd (by omega) HJN.out,h1]
     omega)
    rw [<-hdr]at HF3 hf3;obtain⟨_,_,hu,⟨A1,c1,hv1,_⟩,⟨A2,c2,hv2,_⟩⟩:=hf3.here;subst hu hv1 hv2;obtain⟨d1,hd1⟩:∃z,z=dr.val.length:=⟨_,rfl⟩;obtain⟨d2,hd2⟩:∃z,z=dr.rel.length:=⟨_,rfl⟩;obtain⟨d0,hd0⟩:∃z,z=dr.n:=⟨_,rfl⟩;obtain⟨sw,hsw⟩:∃z,z=Kx kc j:=⟨_,rfl⟩;have HD0:=Qq hd0;have HD1:=Qq hd1;have HD2:=Qq hd2;have HSW:=Qq hsw;rw [<-hd0,<-hd1,<-hd2]at HF3⊢;rw [<-hsw];have HX3:=Qq (HXB.out.trans hx3);have HS3:=Qq hx3.size;clear hf3 hx3 hdr hd0 hd1 hd2 hsw e0 e1 e2 el;obtain⟨w5,hw5⟩:∃z,z=w3.alloc (.cells #[.int .i64 d0,.slice A1 d1 c1,.slice A2 d2 c2] 26):=⟨_,rfl⟩;have HX5:=Qq (show Ext w3 w5 by rw [hw5];exact Qz.alloc _)
    have HB5:=Qq (show w5.heap[w3.heap.size]?=some (.cells #[.int .i64 d0,.slice A1 d1 c1,.slice A2 d2 c2] 26 (0,0)) by rw [hw5];exact heap_alloc_new _ _);go_upto_region 12 with(fail);rw [<-hw5];obtain⟨xb,hxb⟩:∃z,z=w3.heap.size:=⟨_,rfl⟩;rw [<-hxb]at HB5⊢;clear hw5 hxb;obtain⟨e0,e1,e2,el⟩:=Zd HB5.out;go_wp2_with fail;refine(Ys lg _ _ f dr sw _ (HT.out.ext (HX.out.trans (HX3.out.trans HX5.out))) (HF.out.ext (HX.out.trans (HX3.out.trans HX5.out))) (HF3.out _ (Yr.of_ext HX5.out)) (by rw [HDR.out];exact Ll (Qka HCM.out.good.ck (by rw [Qjd (by have:=HNT.out;omega) HJN.out];have:=HNT.out;have:=HJK.out;omega) (Qqz _)))).mono ?_
    rintro e w4 ⟨rfl,hx4⟩;have HX4:=Qq (HX3.out.trans (HX5.out.trans hx4));have HB4:=Qq ((hx4.block (Qf HB5.out)).trans HB5.out);have HF4:=Qq (HF3.out.next (X':=fun k=>k < wr.heap.size) (Yr.of_ext (HX5.out.trans hx4)) (fun _ _ h=>h));clear hx4 e0 e1 e2 el;obtain⟨c0,hc0⟩:∃z,z=cmN lg f dr (sw:Int):=⟨_,rfl⟩;have HC0:=Qq (show cmN lg f (Fy mdc j) (Kx kc j:Nat)=c0 by rw [hc0,HDR.out,HSW.out]);rw [<-hc0];clear hc0;by_cases hcz:c0=0
    ·subst hcz;obtain⟨e0,e1,e2,el⟩:=Zd HB4.out;have HBX:=Qq ((HX4.out.block (Qf HBC.out)).trans HBC.out);have HBY:=Qq ((HX4.out.block (Qf HBP.out)).trans HBP.out);obtain⟨⟨q0,q1,q2⟩,⟨f0,f1,f2⟩,ql⟩:=Zt HBX.out;obtain⟨j2,hj2,hok2⟩:=Kc.1 HC0.out;obtain rfl:j2=Kx kc j:=by omega
     have HOK2:=Qq hok2;have hwr:lo<=wr.heap.size:=Qx HLW.out HXB.out.size;have hput:=ShC.put (lo:=lo) (b:=b) (md:=dr) (u:=.agg #[.int .i64 d0,.slice A1 d1 c1,.slice A2 d2 c2]) HF4.out hwr (by have:=HLOB.out;omega) HBX.out;obtain⟨B1',k1',B2',k2',hu,hsc⟩:=hput;rw [<-HD0.out,<-HD1.out,<-HD2.out]at hu hsc;injection hu with hu;obtain⟨rfl,rfl,rfl,rfl⟩:A1=B1'/\c1=k1'/\A2=B2'/\c2=k2':=by
      injection hu with hu;injection hu with _ hu;injection hu with h1 hu;injection hu with h2 _;injection h1 with a1 _ a2;injection h2 with a3 _ a4;exact⟨a1,a2,a3,a4⟩
     have HSC2:=Qq hsc;have HSZ4:=Qq (show lo<=w4.heap.size by have:=HX4.out.size;have:=HLW.out;omega);have HXN:=Qq (show Ext w (((w4.setCell ⟨b,0,none⟩ (.int .i64 d0)).setCell ⟨b,1,none⟩ (.slice A1 d1 c1)).setCell ⟨b,2,none⟩ (.slice A2 d2 c2))from Jc (HX.out.trans HX4.out) HLO.out _ _ _);have HBN:=Qq (show(((w4.setCell ⟨b,0,none⟩ (.int .i64 d0)).setCell ⟨b,1,none⟩ (.slice A1 d1 c1)).setCell ⟨b,2,none⟩ (.slice A2 d2 c2)).heap[b+1]?=some (.cells #[.int .i64 0,.slice none 0 0,.slice none 0 0] 26 (0,0))from(Vd (by omega) _ _ _).trans HBY.out);clear hj2 hok2 hsc hu hwr;have HOKD:=Qq (show Xk lg f dr sw by rw [HDR.out,HSW.out];exact HOK2.out)
     have HM1:=Qq (Zd (Jh HBX.out (.int .i64 d0) (.slice A1 d1 c1) (.slice A2 d2 c2))).1;have HM2:=Qq (Zd HBC.out).1;go_wp2_with fail;refine⟨⟨sw,rfl,?_,Qq ⟨by simpa [World.setCell]using HSZ4.out,dr,HSC2.out,HXN.out,HOKD.out,HBN.out,fun md' k' h=>HSH.out md' k' (.step HJN.out HJK.out HC0.out (fun u h1 h2 h3=>HJ.out u (by omega) (by rw [<-HNT.out];exact h2) h3) (by rw [<-HDR.out,<-HSW.out];exact h))⟩⟩,?_⟩
     ·rw [HSW.out];unfold Kx
      split <;> omega
     rw [HM1.out,HM2.out];show(d0:Int).toNat < ((n:Nat):Int).toNat;rw [HD0.out,HDN.out];omega
    have hne:(c0==0)=false:=by rw [beq_eq_false_iff_ne];exact hcz
    have HCZ:=Qq hcz;clear hcz;go_wp2_with fail;go_roundw
    case rel=>exact⟨by first|rfl|trivial,(j:Int) - 1,rfl,by omega,by omega,Qq ⟨HX4.out,fun u h1 h2 h3=>by
     by_cases e:u=j
     ·rw [e,HC0.out];exact HCZ.out
     exact HJ.out u (by omega) h2 h3⟩⟩
    case measure=>simp [intOf] <;> omega
   obtain rfl:z= -1:=by omega
   have HBY:=Qq ((HXB.out.block (Qf HBP.out)).trans HBP.out);obtain⟨⟨q0,q1,q2⟩,⟨f0,f1,f2⟩,ql⟩:=Zt HBY.out;have HRES:=Qq (show Qv2 lg f md (k:Int) mdc kc from .inr ⟨HEC.out.symm,k,out,rfl,HGK.out,by
    rw [<-HMD1.out,<-HK1.out];exact HSH.out _ _ (.done fun u h1 h2=>HJ.out u (by omega) (by rw [<-HNT.out];exact h1) h2)⟩)
   have HFE:=Qq (HFZ.out.next (X':=fun k=>k < lo) (Yr.of_ext HXB.out) (fun _ _ h=>h));have HLW2:=Qq (show w.heap.size<=lo by have:=HLO.out;have:=HLOB.out;omega);have HFIN:=Qq (show Frz (fun k=>k < w.heap.size) (((wr.setCell ⟨b+1,0,none⟩ (.int .i64 (n:Int))).setCell ⟨b+1,1,none⟩ (.slice A m2 c)).setCell ⟨b+1,2,none⟩ (.slice A' m3 c')) (fun W=>MdV W (.agg #[.int .i64 (n:Int),.slice A m2 c,.slice A' m3 c']) mdc)from HFE.out.keep HLW2.out (by simp [World.setCell]) (fun k h1 _=>Vd (by have:=HLOB.out;omega) _ _ _));clear hz;go_wp2_with fail
   (try simp only [Exit.noGoto_ret])
   refine bodyPost_ret (Yt Tryz.results29 _ _ rfl (Zl (Jh HBY.out _ _ _)) Tryz.underlying26 rfl (by kernel_rfl)) rfl ?_;exact⟨_,mdc,kc,rfl,HRES.out,Jc (HX.out.trans HXB.out) (by have:=HLO.out;omega) _ _ _,HFIN.out⟩
end Go.Proofs.YtkmclcmnoicagaaGreatDoor
