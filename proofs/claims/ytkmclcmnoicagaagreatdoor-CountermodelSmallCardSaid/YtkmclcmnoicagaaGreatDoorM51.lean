/- A case (a formula, a model, a world) read from a call's arguments. -/
import Derived.Test.YtkmclcmnoicagaaGreatDoorM01
import Derived.Test.YtkmclcmnoicagaaGreatDoorM12
import Derived.Test.YtkmclcmnoicagaaGreatDoorM50
import Derived.Test.YtkmclcmnoicagaaGreatDoorM48
import Derived.Test.YtkmclcmnoicagaaGreatDoorM49
import Derived.LaidMore
import Derived.SevenTiedAt
import Derived.Stop.Joined
import Derived.Below
namespace Go.Proofs.YtkmclcmnoicagaaGreatDoor
set_option maxRecDepth 100000
set_option maxHeartbeats 128000000
open Go.ChangeShapes Go.WideShapes Go.ChangeAt Go.RowKit Go.Deep Go.Joins
theorem Qiz {α:Type} {cs:Array α}(h:cs.size=5):∃c0 c1 c2 c3 c4,cs=#[c0,c1,c2,c3,c4]:=by
 obtain⟨l⟩:=cs
 match l,h with
 |[c0,c1,c2,c3,c4],_=>exact⟨c0,c1,c2,c3,c4,rfl⟩
section
variable {H:Type} {enc:TypeId×Value->H} {w:World} {spare:Nat->Bool} {held:Bool}
theorem Qdr {fuel:Nat} {u0 u1 u2:Value} {y:DataW H×List MemPlace}(h:DataW.trod enc Tryz.prog w 0 spare held fuel 26 [u0,u1,u2]=some y):∃md,MdV w (.agg #[u0,u1,u2]) md/\md.ok:=by
 obtain⟨y0,y1,y2,n,_,_,t0,t1,t2⟩:=trod_struct3 Tryz.underlying26 h;have k0:Tryz.prog.cellsOf 3=1:=by kernel_rfl
 have k1:Tryz.prog.cellsOf 23=1:=by kernel_rfl
 have k2:Tryz.prog.cellsOf 24=1:=by kernel_rfl
 obtain⟨z,rfl,hz⟩:=Gf (v:=u0) (by simpa [k0]using t0);obtain⟨vs,hvs,hw1⟩:=Pi (v:=u1) (by simpa [k1]using t1);obtain⟨rs,hrs,hw2⟩:=Od (v:=u2) (by simpa [k2]using t2);exact⟨⟨z,vs,rs⟩,⟨_,_,rfl,hvs,hrs⟩,⟨hz,hw1,hw2⟩⟩
theorem Qb8 {r:Reach} {b0:Nat} {v:Value} {d:DataW H} {p:List MemPlace}(hv:Value.okWide Tryz.prog w r b0 50 v)(h:DataW.Trod enc Tryz.prog w 0 spare held 50 v d p):
 ∃u f n0 n1 n2 md wd,v=.agg #[u,n0,n1,n2,.int .i64 wd]/\Fml w u f/\MdV w (.agg #[n0,n1,n2]) md/\md.ok/\Yo wd:=by
 obtain⟨cs,rfl,hsz⟩:=okWide_struct Tryz.underlying50 hv;have hC:Tryz.prog.cellsOf 50=5:=by kernel_rfl
 obtain⟨c0,c1,c2,c3,c4,rfl⟩:=Qiz (hsz.trans hC);obtain⟨fuel,hf⟩:=h;obtain⟨y0,y1,y2,n,_,_,t0,t1,t2⟩:=trod_struct3 Tryz.underlying50 hf;have k0:Tryz.prog.cellsOf 22=1:=by kernel_rfl
 have k1:Tryz.prog.cellsOf 26=3:=by kernel_rfl
 have k2:Tryz.prog.cellsOf 3=1:=by kernel_rfl
 obtain⟨f,hfm⟩:=Lz (v:=c0) (by simpa [Value.cells,k0]using t0);obtain⟨md,hm,ho⟩:=Qdr (u0:=c1) (u1:=c2) (u2:=c3) (by simpa [Value.cells,k1]using t1);obtain⟨wd,rfl,hw⟩:=Gf (v:=c4) (by simpa [Value.cells,k2]using t2);exact⟨c0,f,c1,c2,c3,md,wd,rfl,hfm,hm,ho,hw⟩
end
theorem Qks {w:World} {lg:Int} {vf n0 n1 n2:Value} {f:List Nd} {md:Md} {wd:Int}(hf:Fml w vf f)(hm:MdV w (.agg #[n0,n1,n2]) md)(hok:md.ok)(hT:Vf w):
 Calls Tryz.prog 8 #[.int .i64 lg,.agg #[vf,n0,n1,n2,.int .i64 wd]] w fun e w'=>e=.returned (.bool true)/\Ext w w':=by
 have HF:=Qq hf;have HOK:=Qq hok;have HT:=Qq hT;obtain⟨Af,cf,rfl,_⟩:=Qm hf;obtain⟨Av,lv,cv,Ar,lr,cr,rfl,rfl,rfl⟩:=Qmq hm;obtain⟨n,hn⟩:∃z,z=md.n:=⟨_,rfl⟩;have HN:=Qq hn;rw [<-hn]at hm⊢;have HM:=Qq hm;obtain⟨W0,hW0⟩:∃z,z=w.alloc (.cells #[.slice Af f.length cf,.int .i64 n,.slice Av lv cv,.slice Ar lr cr,.int .i64 wd] 50):=⟨_,rfl⟩;obtain⟨b,hb⟩:∃z,z=w.heap.size:=⟨_,rfl⟩;have X0:=Qq (show Ext w W0 by rw [hW0];exact Qz.alloc _);have B0:=Qq (show W0.heap[b]?=some (.cells #[.slice Af f.length cf,.int .i64 n,.slice Av lv cv,.slice Ar lr cr,.int .i64 wd] 50 (0,0)) by rw [hW0,hb];exact heap_alloc_new _ _)
 clear hf hm hok hT hn;obtain⟨e0,e1,e2,e3,e4,el⟩:=Me B0.out;obtain⟨er,her⟩:∃z,z=cmN lg f md wd:=⟨_,rfl⟩;have HER:=Qq her;clear her;go_enter Tryz.func8,Tryz.ntmps8;go_upto_region 1 with(fail);rw [<-hW0,<-hb];clear hW0 hb;go_wp2_with fail;refine(Qdo (HM.out.ext X0.out)).mono ?_;rintro e w1 ⟨fb,rfl,hx⟩;have X1:=Qq (X0.out.trans hx);have B1:=Qq ((hx.block (Qf B0.out)).trans B0.out);clear hx e0 e1 e2 e3 e4 el;cases fb
 ·skip
  go_wp2_with fail;refine(Ja _ (HT.out.ext X1.out)).mono ?_;rintro e wt ⟨rfl,hxt⟩;have YT:=Qq (X1.out.trans hxt);clear hxt;go_wp2_with fail;go_ret;exact⟨rfl,YT.out⟩
 obtain⟨e0,e1,e2,e3,e4,el⟩:=Me B1.out;by_cases h8:8 < n
 ·skip
  go_wp2_with fail;refine(Ja _ (HT.out.ext X1.out)).mono ?_;rintro e wt ⟨rfl,hxt⟩;have YT:=Qq (X1.out.trans hxt);clear hxt;go_wp2_with fail;go_ret;exact⟨rfl,YT.out⟩
 go_wp2_with fail;refine(Ys lg _ _ f md wd _ (HT.out.ext X1.out) (HF.out.ext X1.out) (HM.out.ext X1.out) HOK.out).mono ?_;rintro e w2 ⟨rfl,hx⟩;rw [<-HER.out];have X2:=Qq (X1.out.trans hx);have B2:=Qq ((hx.block (Qf B1.out)).trans B1.out);clear hx e0 e1 e2 e3 e4 el;obtain⟨e0,e1,e2,e3,e4,el⟩:=Me B2.out;by_cases hz:er=0
 case neg =>
  have hne:(er !=0)=true:=by simpa using hz
  clear hz;go_wp2_with fail;refine(Ja _ (HT.out.ext X2.out)).mono ?_;rintro e wt ⟨rfl,hxt⟩;have YT:=Qq (X2.out.trans hxt);clear hxt;go_wp2_with fail;go_ret;exact⟨rfl,YT.out⟩
 subst hz;go_wp2_with fail;refine(Do lg _ _ f md wd _ (HT.out.ext X2.out) (HF.out.ext X2.out) (HM.out.ext X2.out) HOK.out).mono ?_;rintro e w3 ⟨u3,md3,k3,rfl,hs,hx,hfz⟩;rw [<-HER.out];obtain⟨m,hmn,hm1,hm8,hmle,hmok,hmk,hmc,hlaw⟩:=Qm9 HER.out.symm (by rw [<-HN.out];omega) hs;obtain⟨Cv,vl,vc,Cr,sl,sc,rfl⟩:=Tn hfz.here;rw [hmn];have hmle2:¬n < (m:Int):=by rw [HN.out,<-hmn];omega
 have hm1i:¬(m:Int) < 1:=by omega
 have HMC:=Qq hmc;have HLAW:=Qq hlaw;have HMOK:=Qq hmok;have hh:=hfz.here;rw [hmn]at hh;have HM3:=Qq hh;have HX:=Qq hx;clear hs hx hfz hh hmn hmle hmok hmc hlaw e0 e1 e2 e3 e4 el;obtain⟨w4,hw4⟩:∃z,z=w3.alloc (.cells #[.int .i64 (m:Int),.slice Cv vl vc,.slice Cr sl sc] 26):=⟨_,rfl⟩;obtain⟨b4,hb4⟩:∃z,z=w3.heap.size:=⟨_,rfl⟩;have E4:=Qq (show Ext w3 w4 by rw [hw4];exact Qz.alloc _);have B4:=Qq (show w4.heap[b4]?=some (.cells #[.int .i64 (m:Int),.slice Cv vl vc,.slice Cr sl sc] 26 (0,0)) by rw [hw4,hb4];exact heap_alloc_new _ _);go_upto_region 4 with(fail);rw [<-hw4,<-hb4];clear hw4 hb4;have X4:=Qq (X2.out.trans (HX.out.trans E4.out))
 have B2:=Qq (((HX.out.trans E4.out).block (Qf B2.out)).trans B2.out);have M4:=Qq (HM3.out.ext E4.out);clear HX HM3 E4;obtain⟨e0,e1,e2,e3,e4,el⟩:=Me B2.out;obtain⟨c0,c1,c2,cl⟩:=Zd B4.out;go_wp2_with fail;refine(Ys lg _ _ f md3 (k3:Int) _ (HT.out.ext X4.out) (HF.out.ext X4.out) M4.out HMOK.out).mono ?_;rintro e w5 ⟨rfl,hx⟩;rw [HMC.out];have X5:=Qq (X4.out.trans hx);have B2:=Qq ((hx.block (Qf B2.out)).trans B2.out);have B4:=Qq ((hx.block (Qf B4.out)).trans B4.out);have M5:=Qq (M4.out.ext hx);clear hx e0 e1 e2 e3 e4 el c0 c1 c2 cl;obtain⟨c0,c1,c2,cl⟩:=Zd B4.out
 go_wp2_with fail;clear c0 c1 c2 cl;go_loopw [73] (fun v wr=>∃k:Nat,v=.int .i64 (k:Int)/\k<=m/\Hid (Ext w5 wr)) (fun v _=>m - (intOf v).toNat)
 case atStart=>exact⟨0,rfl,Nat.zero_le _,Qq Qz⟩
 case round =>
  obtain⟨k,rfl,hk,HREL⟩:=hrel;have HX:=Qq HREL.out;clear HREL;have XR:=Qq (X5.out.trans HX.out);have BR:=Qq ((HX.out.block (Qf B2.out)).trans B2.out);have BS:=Qq ((HX.out.block (Qf B4.out)).trans B4.out);obtain⟨c0,c1,c2,cl⟩:=Zd BS.out;by_cases hlt:k < m
  ·have hk1:(k:Int) < (m:Int):=by omega
   by_cases hkk:k=k3
   ·have hkb:((k:Int)==(k3:Int))=true:=by rw [hkk];simp
    clear hkk;go_wp2_with fail;go_roundw
    case rel=>exact⟨k+1,by go_num,by omega,Qq HX.out⟩
    case measure=>simp [intOf];omega
   have hkb:((k:Int)==(k3:Int))=false:=by rw [beq_eq_false_iff_ne];omega
   by_cases hm2:m=1
   ·have hmb:((m:Int)==1)=true:=by rw [hm2];rfl
    clear hm2;go_wp2_with fail;go_roundw
    case rel=>exact⟨k+1,by go_num,by omega,Qq HX.out⟩
    case measure=>simp [intOf];omega
   have hmb:((m:Int)==1)=false:=by rw [beq_eq_false_iff_ne];omega
   obtain⟨hE,hL⟩:=HLAW.out k hlt hkk;obtain⟨z,hzz⟩:∃z,z=2^m - 1 - 2^k:=⟨_,rfl⟩;rw [<-hzz]at hE hL;have HE:=Qq hE;have HL:=Qq hL;have hpm:2^m<=256:=show 2^m<=2^8 from Nat.pow_le_pow_right (by decide) hm8
   have hpk:2^k < 2^m:=Nat.pow_lt_pow_right (by decide) hlt;have hk8:k < 8:=by omega
   have HZW:=Qq (show Qw z by rw [hzz];exact Nat.lt_of_le_of_lt (Qx (Nat.sub_le _ _) (Qx (Nat.sub_le _ _) hpm)) (by decide));obtain⟨pm,hpmd⟩:∃z,z=2^m:=⟨_,rfl⟩;obtain⟨pk,hpkd⟩:∃z,z=2^k:=⟨_,rfl⟩;have s0:IntKind.u64.wrap (m:Int)=(m:Int):=by rw [IntKind.wrap_u64];omega
   have s1:IntKind.u64.wrap (k:Int)=(k:Int):=by rw [IntKind.wrap_u64];omega
   have s2:IntKind.u64.wrap ((2:Int)^m)=(pm:Int):=by
    rw [hpmd,show((2:Int)^m)=((2^m:Nat):Int) by simp,IntKind.wrap_u64];omega
   have s3:IntKind.u64.wrap ((2:Int)^k)=(pk:Int):=by
    rw [hpkd,show((2:Int)^k)=((2^k:Nat):Int) by simp,IntKind.wrap_u64];omega
   have s4:IntKind.u64.wrap ((pm:Int) - 1)=((pm - 1:Nat):Int):=by
    rw [IntKind.wrap_u64];omega
   have s5:IntKind.u64.wrap (((pm - 1:Nat):Int) - (pk:Int))=(z:Int):=by
    rw [IntKind.wrap_u64];omega
   have t0:min m 64=m:=by omega
   have t1:min k 64=k:=by omega
   clear hzz hpm hpk hpmd hpkd hE hL hkk hm2;go_wp2_with fail;refine(Qqy _ md3 z _ HZW.out (HT.out.ext XR.out) (M5.out.ext HX.out) HMOK.out).mono ?_;rintro e w6 ⟨vr,vl6,rfl,hx,hfz⟩;rw [HE.out];obtain⟨hmr,hnl⟩:=hfz.here;have HR6:=Qq hmr;have HN6:=Qq hnl;have HX6:=Qq hx;obtain⟨rn,Rv,ra,rb,Rr,rc2,rd,rfl⟩:=Bb hmr;obtain⟨Al,lc,rfl,_,_,HA⟩:=hnl;clear hx hfz hmr s0 s1 s2 s3 s4 s5 t0 t1 c0 c1 c2 cl hkb hmb;obtain⟨w7,hw7⟩:∃z,z=w6.alloc (.cells #[.int .i64 rn,.slice Rv ra rb,.slice Rr rc2 rd] 26):=⟨_,rfl⟩;obtain⟨b7,hb7⟩:∃z,z=w6.heap.size:=⟨_,rfl⟩;have E7:=Qq (show Ext w6 w7 by rw [hw7];exact Qz.alloc _)
   have B7:=Qq (show w7.heap[b7]?=some (.cells #[.int .i64 rn,.slice Rv ra rb,.slice Rr rc2 rd] 26 (0,0)) by rw [hw7,hb7];exact heap_alloc_new _ _);go_upto_region 11 with(fail);rw [<-hw7,<-hb7];clear hw7 hb7;have X7:=Qq (HX.out.trans (HX6.out.trans E7.out));have R7:=Qq (HR6.out.ext E7.out);have BR7:=Qq (((HX6.out.trans E7.out).block (Qf BR.out)).trans BR.out);have HAX:=Qq E7.out;have HROK:=Qq (Zqz (s:=z) HMOK.out);obtain⟨rl,hrl⟩:∃y,y=Hc md3 z:=⟨_,rfl⟩;have hrl64:rl.length<=64:=by
    rw [hrl];unfold Hc
    split
    ·exact Qqz _
    exact Nat.zero_le _
   have HRL:=Qq hrl;rw [<-hrl]at HL HA⊢;clear HX6 HR6 HN6 hrl E7;obtain⟨wo,hwo⟩:∃v,v=wr:=⟨_,rfl⟩;subst hwo;go_wp2_with fail;go_loopw [103] (fun v wr=>∃j:Nat,v=.int .i64 (j:Int)/\j<=rl.length/\Hid (Ext w7 wr)) (fun v _=>rl.length - (intOf v).toNat)
   case atStart=>exact⟨0,rfl,Nat.zero_le _,Qq Qz⟩
   case round =>
    obtain⟨j,rfl,hj,HREL⟩:=hrel;have HXJ:=Qq HREL.out;clear HREL;have XJ:=Qq (X5.out.trans (X7.out.trans HXJ.out));by_cases hlt2:j < rl.length
    ·have hj1:(j:Int) < (rl.length:Int):=by omega
     obtain⟨ad,rfl,hadl,hac⟩:=HA.out j hlt2;have a0:=((HAX.out.trans HXJ.out).cell (p:=ad.add j) (Qj hadl)).trans hac;have al:(ad.add j).block < wr.heap.size:=by rw [Qc];exact Qy hadl (HAX.out.trans HXJ.out).size
     have HQ:=Qq (show rl[j]?=some (rl.getD j 0) by rw [Qk,Qv hlt2];rfl);obtain⟨q,hq⟩:∃q,q=rl.getD j 0:=⟨_,rfl⟩;rw [<-hq]at a0 HQ;clear hadl hac hq;by_cases hqk:q=k3
     ·have hqb:((q:Int)==(k3:Int))=true:=by rw [hqk];simp
      obtain⟨cz,hcz⟩:∃c,c=cmN lg f (Mq md3 z) (j:Int):=⟨_,rfl⟩;have HCZ:=Qq hcz;have hne:(cz==0)=false:=by rw [beq_eq_false_iff_ne,hcz];exact HL.out j (by rw [<-hqk];exact HQ.out)
      obtain⟨e0,e1,e2,e3,e4,el⟩:=Me ((HXJ.out.block (Qf BR7.out)).trans BR7.out);obtain⟨d0,d1,d2,dl⟩:=Zd ((HXJ.out.block (Qf B7.out)).trans B7.out);clear hqk hcz;go_wp2_with fail;refine(Ys lg _ _ f (Mq md3 z) (j:Int) _ (HT.out.ext XJ.out) (HF.out.ext XJ.out) (R7.out.ext HXJ.out) HROK.out).mono ?_;rintro e w8 ⟨rfl,hx⟩;rw [<-HCZ.out];have X8:=Qq (HXJ.out.trans hx);clear hx e0 e1 e2 e3 e4 el d0 d1 d2 dl a0 al;go_wp2_with fail;go_roundw
      case rel=>exact⟨j+1,by go_num,by omega,Qq X8.out⟩
      case measure=>simp [intOf];omega
     have hqb:((q:Int)==(k3:Int))=false:=by rw [beq_eq_false_iff_ne];omega
     clear hqk;go_wp2_with fail;go_roundw
     case rel=>exact⟨j+1,by go_num,by omega,Qq HXJ.out⟩
     case measure=>simp [intOf];omega
    obtain rfl:rl.length=j:=by omega
    have X9:=Qq (X7.out.trans HXJ.out);go_wp2_with fail;go_roundw
    case rel=>exact⟨k+1,by go_num,by omega,Qq X9.out⟩
    case measure=>simp [intOf];omega
  obtain rfl:m=k:=by omega
  clear c0 c1 c2 cl;go_wp2_with fail;refine(Ja _ (HT.out.ext XR.out)).mono ?_;rintro e wt ⟨rfl,hxt⟩;have YT:=Qq (XR.out.trans hxt);clear hxt;go_wp2_with fail;go_ret;exact⟨rfl,YT.out⟩
theorem Fw:laidOutB Tryz.prog=true:=by kernel_rfl
theorem own:ownKnob Tryz.prog.godebug=none:=by kernel_rfl
theorem Nt(os:Os)(args:Array Value):laidMetH Tryz.prog [("math/bits.deBruijn64tab",Rows.laid_math_bits_deBruijn64tab)] ((World.doorLaid Tryz.prog 600 os).forCall (fun _ _=>0) ⟨#[],args,[]⟩).memory:=by
 rw [Go.MakeChecks.laidMetH_plain _ _ _ rfl];exact laidMet_of_run' 8 (by kernel_rfl) (by kernel_rfl)
theorem Pd(os:Os)(started:os.Started)(H:Type)(enc:TypeId×Value->H):
 ReturnsInHanded {} Tryz.checked os 8 .any (fun w args=>(Rows.countermodelSmallSpec.pre enc Tryz.prog Tryz.f8 [] false w args/\laidMetH Tryz.prog [("math/bits.deBruijn64tab",Rows.laid_math_bits_deBruijn64tab)] w)/\sizedMet enc Tryz.prog Tryz.f8 (OpenSpec.ofChange Rows.countermodelSmallSpec) false w args)
  (Rows.countermodelSmallSpec.post enc Tryz.prog Tryz.f8 false true false false):=by
 refine returnsInHanded_of_change_and (C:=Tryz.checked) (X:=fun w _=>laidMetH Tryz.prog [("math/bits.deBruijn64tab",Rows.laid_math_bits_deBruijn64tab)] w) (fun _ _ _ hh h=>h.of_heap hh) own started (by kernel_rfl) Tryz.func8
  (ChangeSpec.witness_shaped (enc:=enc) (C:=Tryz.checked) (os:=os) (X:=fun w _=>laidMetH Tryz.prog [("math/bits.deBruijn64tab",Rows.laid_math_bits_deBruijn64tab)] w) false (World.doorLaid Tryz.prog 600 os) #[.int .i64 0,.agg #[.slice none 0 0,.int .i64 0,.slice none 0 0,.slice none 0 0,.int .i64 0]] 8 rfl (World.shaped_of_RefB (by kernel_rfl) (by kernel_rfl)) (by kernel_rfl) (by kernel_rfl) (by kernel_rfl) (Nt os _)) ?_
 intro W base args ds gs before hval0 hW _ _ hL _;have hval:∀(j:Nat) t v,Tryz.f8.params[j]?=some t->args[j]?=some v->Value.okWide Tryz.prog W .any base t v:=hval0;have hTAB:=Sp hL;have hW':=hW;obtain⟨p,q,hA0,hV,rfl,hfz,hnd⟩:=hW;have hA:DataW.TrodAll enc Tryz.prog W 0 (fun _=>true) true Tryz.f8.params.toList args.toList ds p:=hA0;rw [Tryz.params8]at hA hval;obtain⟨v0,vs0,d0,ds0,p0,q0,hargs,rfl,rfl,h0,r0⟩:=trodAll_cons hA;obtain⟨v1,vs1,d1,ds1,p1,q1,rfl,rfl,rfl,h1,r1⟩:=trodAll_cons r0;obtain⟨rfl,rfl,rfl⟩:=trodAll_nil r1;obtain rfl:args=#[v0,v1]:=by cases args;simp_all
 obtain⟨rfl,rfl⟩:=trodVars_none hV;obtain⟨z0,rfl,rfl,rfl,wz0⟩:=open_int Tryz.underlying3 (hval 0 3 v0 rfl rfl) h0;obtain⟨u1,f1,n1a,n1b,n1c,md1,wd1,rfl,hf1,hm1,mo1,wo1⟩:=Qb8 (hval 1 50 v1 rfl rfl) h1;simp only [List.append_nil]at hW';clear hA0 hval0;refine(Qks (lg:=z0) hf1 hm1 mo1 hTAB).mono ?_;rintro e W' ⟨rfl,hx⟩;have hlt:∀x∈p1,x.block < W.heap.size:=fun x hx'=>hW'.lt x hx'
 refine⟨_,rfl,Nr (pa:=p1) (pv:= []) hW' (fun _ _ _=>trodAll_mk1 (shut_bool Tryz.underlying4 _)) (fun sp hsp=> ?_) (fun _ _=>rfl) (by simp) hx (ok_one (by kernel_rfl) rfl (okWide_bool_mk Tryz.underlying4 _))⟩;have ht:=(trodAll_cons_mk (shut_int Tryz.underlying3 wz0) (trodAll_cons_mk (WideElems.Trod_stays Fw (by kernel_rfl) (of_decide_eq_true (by kernel_rfl)) h1 (fun x hx'=>hx.same (hlt x hx')) (fun x hx'=>hsp x hx')) trodAll_mk0));simp only [List.append_nil,List.nil_append]at ht;exact ht
theorem Hn:Rows.CountermodelSmallSaid :=
 OpenClaim.holds_of_wide 8 Tryz.f8 rfl rfl rfl rfl rfl rfl rfl ⟨rfl,rfl,rfl,rfl,rfl⟩ rfl rfl rfl rfl rfl (by kernel_rfl) Tryz.func8 (by kernel_rfl)
  (of_decide_eq_true (by kernel_rfl)) (by unfold Func.isWrapper;first|(rw [if_pos (by decide+kernel)];kernel_rfl)|(rw [if_neg (by decide+kernel)];exact⟨rfl,rfl⟩))
  (fun os started H enc _=>Pd os started H enc)
theorem Ck(f:FuncId)(fn:Func)(hf:Tryz.pinned.checked.prog.funcNamed "witting/wittinglaw48.CountermodelSmall" =some f)(hfn:Tryz.pinned.checked.prog.funcs[f]?=some fn):
 false=Tryz.pinned.checked.prog.looks []/\∀(j:Nat) t,fn.params[j]?=some t->Tryz.pinned.checked.prog.wantsStandIn t=false:=by
 obtain rfl:f=8:=Option.some.inj ((show Tryz.prog.funcNamed "witting/wittinglaw48.CountermodelSmall" =some 8 by kernel_rfl).symm.trans hf)|>.symm;obtain rfl:fn=Tryz.f8:=(Option.some.inj (Tryz.func8.symm.trans hfn)).symm;refine⟨by kernel_rfl,fun j t ht=> ?_⟩;rw [Tryz.params8]at ht;have hm:t∈ #[(3:TypeId),(50:TypeId)]:=Array.mem_of_getElem? ht;simp only [List.mem_toArray,List.mem_cons,List.not_mem_nil,or_false]at hm;rcases hm with rfl|rfl
 ·exact(show Tryz.prog.wantsStandIn 3=false by kernel_rfl)
 exact(show Tryz.prog.wantsStandIn 50=false by kernel_rfl)
theorem countermodelSmall_card:Rows.CountermodelSmallCardSaid :=
 Claim7.holds_tied_plain_at .later [] _ _ _ _ Hn (fun _ h=>by cases h) (by kernel_rfl) (fun _ h=>by cases h) countermodelSmall_row_tie rfl ⟨rfl,rfl⟩ (by kernel_rfl) rfl Ck (by kernel_rfl)
end Go.Proofs.YtkmclcmnoicagaaGreatDoor
