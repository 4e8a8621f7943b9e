/- The program's At, logical and countermodel.Check. -/
import Derived.Test.YtkmclcmnoicagaaGreatDoorM01
import Derived.Test.YtkmclcmnoicagaaGreatDoorM23
import Derived.Test.YtkmclcmnoicagaaGreatDoorM44
import Derived.Test.YtkmclcmnoicagaaGreatDoorM43
import Derived.Test.YtkmclcmnoicagaaGreatDoorM21
namespace Go.Proofs.YtkmclcmnoicagaaGreatDoor
set_option maxRecDepth 100000
set_option maxHeartbeats 128000000
open Go.RowKit
theorem Qi4(vm v:Value)(md:Md)(f:List Nd)(k:Nat)(w:World)(hm:MdV w vm md)(hok:md.ok)(h:Fml w v f)(hc:Yy md f=0)(hk:k < md.n.toNat):
 Calls Tryz.prog 76 #[vm,.int .i64 (k:Int),v] w fun e w'=>e=.returned (.tuple #[.bool ((Gp md f).testBit k),.int .i64 0])/\Ext w w':=by
 have HM:=Qq hm;have HF:=Qq h;have hck:=(Ks hc).1;obtain⟨hn1,hn64,_⟩:=Zv hck;have HS:=Qq (fun w hm h=>Qxj Qqg vm v md f w hm hok h);rw [hc,if_pos rfl]at HS;have HB:=Qq (Bn (Gp md f) k (Qy (Qk5 hck f) (Sc (by omega))));obtain⟨s,hs⟩:∃s,s=Gp md f:=⟨_,rfl⟩;obtain⟨n,hn⟩:∃n,n=md.n:=⟨_,rfl⟩;rw [<-hs]at HS HB⊢;obtain⟨vv,vr,rfl,⟨Av,cv,rfl,_⟩,⟨Ar,cr,rfl,_⟩⟩:=hm;rw [<-hn]at HM HS hk hn64⊢;have hk1:(k:Int) < n:=by omega
 have hk64:(k:Int) < 64:=by omega
 have hmin:min k 64=k:=by omega
 have hk0:¬(k:Int) < 0:=by omega
 have hk2:¬n<=(k:Int):=by omega
 clear h hok hc hk hck hn1 hn64 hs hn;go_enter Tryz.func76,Tryz.ntmps76;go_wp2_with fail;refine(HS.out _ (HM.out.ext ((Ext.refl w).alloc _)) (HF.out.ext ((Ext.refl w).alloc _))).mono ?_;rintro e w2 ⟨rfl,hx⟩;have HX:=Qq (((Ext.refl w).alloc _).trans hx);have c0:w2.cell? ⟨w.heap.size,0,none⟩=some (.int .i64 n):=(hx.cell (p:=⟨w.heap.size,0,none⟩) (by simp)).trans (by simp);have cl:w.heap.size < w2.heap.size:=Qy (by simp) hx.size;clear hx;go_wp2_with fail;go_ret2;exact⟨by rw [<-HB.out] <;> rfl,HX.out⟩
theorem Ht(lg:Int)(w:World):Calls Tryz.prog 75 #[.int .i64 lg] w fun e w'=>e=.returned (.bool (decide (0<=lg/\lg<=6)))/\w=w':=by
 obtain⟨lo,hlo⟩:∃z,z=decide (0<=lg/\lg<=6):=⟨_,rfl⟩;have HLO:=Qq hlo;rw [<-hlo];clear hlo;by_cases h0:0<=lg
 ·by_cases h6:lg<=6
  ·have HD:=Qq (show lo=true by rw [HLO.out];exact decide_eq_true ⟨h0,h6⟩);go_enter Tryz.func75,Tryz.ntmps75;go_wp2_with fail;go_ret;exact⟨by rw [HD.out] <;> rfl,rfl⟩
  have HD:=Qq (show lo=false by rw [HLO.out];exact decide_eq_false fun h=>h6 h.2);go_enter Tryz.func75,Tryz.ntmps75;go_wp2_with fail;go_ret;exact⟨by rw [HD.out] <;> rfl,rfl⟩
 have HD:=Qq (show lo=false by rw [HLO.out];exact decide_eq_false fun h=>h0 h.1);go_enter Tryz.func75,Tryz.ntmps75;go_wp2_with fail;go_ret;exact⟨by rw [HD.out] <;> rfl,rfl⟩
theorem Ys(lg:Int)(v vm:Value)(f:List Nd)(md:Md)(wd:Int)(w:World)(hT:Vf w)(h:Fml w v f)(hm:MdV w vm md)(hok:md.ok):
 Calls Tryz.prog 27 #[.int .i64 lg,v,vm,.int .i64 wd] w fun e w'=>e=.returned (.int .i64 (cmN lg f md wd))/\Ext w w':=by
 have HT:=Qq hT;have HM:=Qq hm;have HF:=Qq h;have HOK:=Qq hok;obtain⟨vv,vr,rfl,⟨Av,cv,rfl,_⟩,⟨Ar,cr,rfl,_⟩⟩:=hm;obtain⟨n,hn⟩:∃n,n=md.n:=⟨_,rfl⟩;have HN:=Qq hn;rw [<-hn]at HM⊢;obtain⟨r,hr⟩:∃r,r=cmN lg f md wd:=⟨_,rfl⟩;have HR:=Qq hr;rw [<-hr];obtain⟨er,her⟩:∃z,z=Yy md f:=⟨_,rfl⟩;have HER:=Qq her;obtain⟨W0,hW0⟩:∃W,W=w.alloc (.cells #[.int .i64 n,.slice Av md.val.length cv,.slice Ar md.rel.length cr] 26):=⟨_,rfl⟩;have X0:=Qq (show Ext w W0 by rw [hW0];exact Qz.alloc _);have B0:=Qq (show W0.heap[w.heap.size]?=some (.cells #[.int .i64 n,.slice Av md.val.length cv,.slice Ar md.rel.length cr] 26 (0,0)) by rw [hW0];exact heap_alloc_new _ _)
 obtain⟨b,hb⟩:∃b,b=w.heap.size:=⟨_,rfl⟩;rw [<-hb]at B0;clear hT h hok hn hr her;obtain⟨lo,hlo⟩:∃z,z=decide (0<=lg/\lg<=6):=⟨_,rfl⟩;have HLO:=Qq hlo;obtain⟨e0,e1,e2,el⟩:=Zd B0.out;go_enter Tryz.func27,Tryz.ntmps27;go_upto_region 1 with(fail);rw [<-hW0,<-hb];clear hW0 hb;go_wp2_with fail;refine(Ht lg _).mono ?_;rintro e w1 ⟨rfl,rfl⟩;rw [<-hlo];clear hlo;cases lo
 ·have HZ:=Qq (show r=1 by
   have:=of_decide_eq_false HLO.out.symm;rw [HR.out];unfold cmN;rw [if_pos (by omega)])
  go_wp2_with fail;go_ret;exact⟨by rw [HZ.out] <;> rfl,X0.out⟩
 have HRN:=Qq (show r=if er≠0 then er else if wd < 0\/n<=wd then 2 else if inG md lg=false then 12 else if(Gp md f).testBit wd.toNat=true then 0 else 11 by
  have:=of_decide_eq_true HLO.out.symm;rw [HR.out];unfold cmN;rw [if_neg (by omega),<-HER.out,<-HN.out])
 clear HR HLO;go_wp2_with fail;refine(Qqg _ _ md f _ (HM.out.ext X0.out) HOK.out (HF.out.ext X0.out)).mono ?_;rintro e w2 ⟨u,rfl,hx,hu⟩;rw [<-HER.out];have X2:=Qq (X0.out.trans hx);obtain⟨e0,e1,e2,el⟩:=Zd ((hx.block (Qf B0.out)).trans B0.out);have HX2:=Qq hx;clear hx hu;by_cases hz:er=0
 case neg =>
  have HZ:=Qq (show r=er by rw [HRN.out,if_pos hz]);have hne:(er !=0)=true:=by simpa using hz
  clear hz HRN;go_wp2_with fail;go_ret;exact⟨by rw [HZ.out] <;> rfl,X2.out⟩
 subst hz;rw [if_neg (by simp)]at HRN;by_cases hw:wd < 0\/n<=wd
 ·have HZ:=Qq (show r=2 by rw [HRN.out,if_pos hw]);clear HRN;by_cases hw0:wd < 0
  ·clear hw;go_wp2_with fail;go_ret;exact⟨by rw [HZ.out] <;> rfl,X2.out⟩
  have hw1:n<=wd:=hw.resolve_left hw0;clear hw;go_wp2_with fail;go_ret;exact⟨by rw [HZ.out] <;> rfl,X2.out⟩
 rw [if_neg hw]at HRN;have hw0:¬wd < 0:=fun h=>hw (.inl h)
 have hw1:¬n<=wd:=fun h=>hw (.inr h)
 clear hw;obtain⟨k,rfl⟩:=Int.eq_ofNat_of_zero_le (show 0<=wd by omega);rw [Int.toNat_natCast]at HRN;have HK:=Qq (show k < md.n.toNat by have:=HN.out;omega);go_wp2_with fail;refine(Qns _ md lg _ ((HT.out.ext X2.out)) (HM.out.ext X2.out) HOK.out).mono ?_;rintro e w3 ⟨rfl,hx⟩;have X3:=Qq (X2.out.trans hx);obtain⟨e0,e1,e2,el⟩:=Zd (((HX2.out.trans hx).block (Qf B0.out)).trans B0.out);clear hx;obtain⟨g,hg⟩:∃g,g=inG md lg:=⟨_,rfl⟩;rw [<-hg]at HRN⊢;clear hg;cases g
 ·have HZ:=Qq (show r=12 by rw [HRN.out,if_pos rfl]);go_wp2_with fail;go_ret;exact⟨by rw [HZ.out] <;> rfl,X3.out⟩
 rw [if_neg (by simp)]at HRN;go_wp2_with fail;refine(Qi4 _ _ md f k _ (HM.out.ext X3.out) HOK.out (HF.out.ext X3.out) HER.out.symm HK.out).mono ?_;rintro e w4 ⟨rfl,hx⟩;have X4:=Qq (X3.out.trans hx);clear hx;obtain⟨t,ht⟩:∃t,t=(Gp md f).testBit k:=⟨_,rfl⟩;rw [<-ht]at HRN⊢;clear ht;cases t
 ·have HZ:=Qq (show r=11 by rw [HRN.out,if_neg (by simp)]);go_wp2_with fail;go_ret;exact⟨by rw [HZ.out] <;> rfl,X4.out⟩
 have HZ:=Qq (show r=0 by rw [HRN.out,if_pos rfl]);go_wp2_with fail;go_ret;exact⟨by rw [HZ.out] <;> rfl,X4.out⟩
end Go.Proofs.YtkmclcmnoicagaaGreatDoor
