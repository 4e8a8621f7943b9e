/- The program's Fits and request. -/
import Derived.Test.YtkmclcmnoicagaaGreatDoorM01
import Derived.Test.YtkmclcmnoicagaaGreatDoorM37
import Derived.Test.YtkmclcmnoicagaaGreatDoorM42
import Derived.Test.YtkmclcmnoicagaaGreatDoorM14
import Derived.Test.YtkmclcmnoicagaaGreatDoorM21
import Derived.Deep.MidRow
namespace Go.Proofs.YtkmclcmnoicagaaGreatDoor
set_option maxRecDepth 100000
set_option maxHeartbeats 128000000
open Go.RowKit
theorem Qx8(m n:Nat):((m:Int) / 2^n==0)=decide (m < 2^n):=by
 have e:((m:Int) / 2^n)=((m / 2^n:Nat):Int):=by simp
 rw [e,Bool.eq_iff_iff,beq_iff_eq,decide_eq_true_eq];have:=Nat.div_eq_zero_iff (a:=m) (b:=2^n);have hp:=Nat.two_pow_pos n;omega
theorem Qlf {m k a:Nat}(hm:m < 2^k):(List.range k).all (Nm a m)=decide (m < 2^a):=by
 rw [Bool.eq_iff_iff,List.all_eq_true,decide_eq_true_eq];refine⟨fun h=>Qji fun i hi=> ?_,fun h i hi=> ?_⟩
 ·have h2:=h i (List.mem_range.2 (Ky hm hi));unfold Nm at h2;rw [hi]at h2
  simpa using h2
 unfold Nm;cases hb:m.testBit i
 ·rfl
 rw [decide_eq_true (Ky h hb)];rfl
theorem Qvr(m n:Nat)(w:World)(_hm:m < 512)(hn:n<=8):Calls Tryz.prog 208 #[.int .i64 (m:Int),.int .i64 (n:Int)] w fun e w'=>e=.returned (.bool (decide (m < 2^n)))/\w=w':=by
 have hn31:¬(31:Int)<=(n:Int):=by omega
 have hmax:max (n:Int) 0=(n:Int):=by omega
 have hmin:min n 64=n:=by omega
 have HD:=Qq (Qx8 m n);go_enter Tryz.func208,Tryz.ntmps208;go_wp2_with fail;go_ret;exact⟨by rw [<-HD.out] <;> rfl,rfl⟩
theorem Qxz(v:Value)(f:List Nd)(a b:Nat)(w:World)(h:Fml w v f)(ha:a<=4)(hb:b<=8):
 Calls Tryz.prog 185 #[v,.int .i64 (a:Int),.int .i64 (b:Int)] w fun e w'=>e=.returned (.bool (Kf f a b))/\Ext w w':=by
 have H:=Qq h;clear h;by_cases hc:check f=0
 ·have HC:=Qq hc;have hh:=(Jw hc).2.2.2;have hma:Je (Qg f) < 2^4:=Rq _ 0 hh (by decide);have hmf:Yl (Qg f) < 2^8:=Tj _ 0 hh (by decide);have HF:=Qq (show Kf f a b=(decide (Je (Qg f) < 2^a)&&decide (Yl (Qg f) < 2^b)) by
   unfold Kf;rw [Qlf hma,Qlf hmf,HC.out]
   rfl)
  have HA:=Qq (fun(w:World) (h:Fml w v f)=>Hg v f w h hc);have HB:=Qq (fun(w:World) (h:Fml w v f)=>Ee v f w h hc);obtain⟨ma,hmae⟩:∃m,m=Je (Qg f):=⟨_,rfl⟩;obtain⟨mf,hmfe⟩:∃m,m=Yl (Qg f):=⟨_,rfl⟩;rw [<-hmae]at hma HF HA;rw [<-hmfe]at hmf HF HB;have hma5:ma < 512:=by omega
  have hmf5:mf < 512:=by omega
  clear hmae hmfe hma hmf hh hc;cases hd:decide (ma < 2^a)
  ·have HD:=Qq hd;have HE:=Qq (show Kf f a b=false by rw [HF.out,HD.out];rfl);clear hd;go_enter Tryz.func185,Tryz.ntmps185;go_wp2_with(first|(go_at_call 41;refine(Vk _ f _ H.out.1).mono ?_;rintro e w1 ⟨rfl,hx1⟩;rw [HC.out];have HX1:=Qq hx1;clear hx1)|(go_at_call 66;refine(HA.out _ (H.out.ext HX1.out)).mono ?_;rintro e w2 ⟨rfl,hx2⟩;have HX2:=Qq (HX1.out.trans hx2);clear hx2)|(go_at_call 208;refine(Qvr ma a _ hma5 (by omega)).mono ?_;rintro e w3 ⟨rfl,rfl⟩;rw [HD.out]));go_ret;exact⟨by rw [HE.out] <;> rfl,HX2.out⟩
  have HD:=Qq hd;have HE:=Qq (show Kf f a b=decide (mf < 2^b) by rw [HF.out,HD.out];rfl);clear hd;go_enter Tryz.func185,Tryz.ntmps185;go_wp2_with(first|(go_at_call 41;refine(Vk _ f _ H.out.1).mono ?_;rintro e w1 ⟨rfl,hx1⟩;rw [HC.out];have HX1:=Qq hx1;clear hx1)|(go_at_call 66;refine(HA.out _ (H.out.ext HX1.out)).mono ?_;rintro e w2 ⟨rfl,hx2⟩;have HX2:=Qq (HX1.out.trans hx2);clear hx2)|(go_at_call 67;refine(HB.out _ (H.out.ext HX2.out)).mono ?_;rintro e w4 ⟨rfl,hx4⟩;have HX4:=Qq (HX2.out.trans hx4);clear hx4)|(go_at_call 208;refine(Qvr _ _ _ (by first|with_reducible exact hma5|with_reducible exact hmf5) (by omega)).mono ?_;rintro e w3 ⟨rfl,rfl⟩;try rw [HD.out]))
  go_ret;exact⟨by rw [HE.out] <;> rfl,HX4.out⟩
 have HE:=Qq (show Kf f a b=false by
  unfold Kf;rw [show(check f==0)=false by simpa using hc]
  rfl)
 obtain⟨z,hz⟩:∃z,z=check f:=⟨_,rfl⟩;have HZ:=Qq hz;rw [<-hz]at hc;have hne:(z==0)=false:=by simpa using hc
 clear hc hz;go_enter Tryz.func185,Tryz.ntmps185;go_wp2_with(go_at_call 41;refine(Vk _ f _ H.out.1).mono ?_;rintro e w1 ⟨rfl,hx1⟩;rw [<-HZ.out];have HX1:=Qq hx1;clear hx1);go_ret;exact⟨by rw [HE.out] <;> rfl,HX1.out⟩
theorem Qf8(vm v:Value)(md:Md)(f:List Nd)(w:World)(hm:MdV w vm md)(hok:md.ok)(h:Fml w v f):
 Calls Tryz.prog 132 #[vm,v] w fun e w'=>e=.returned (.int .i64 (Yy md f))/\Ext w w':=by
 have HM:=Qq hm;have HOK:=Qq hok;have HF:=Qq h;obtain⟨vv,vr,rfl,hv,hr⟩:=hm;obtain⟨Av,cv,rfl,_⟩:=hv;obtain⟨Ar,cr,rfl,_⟩:=hr;obtain⟨c1,hc1⟩:∃z,z=Zj md:=⟨_,rfl⟩;have HC1:=Qq hc1;obtain⟨c2,hc2⟩:∃z,z=check f:=⟨_,rfl⟩;have HC2:=Qq hc2;clear h hok;by_cases h1:c1=0
 ·have hz:=Zv (show Zj md=0 by rw [<-HC1.out];exact h1);have hr4:=hz.2.2.1;have hv8:=hz.2.2.2.1;subst h1;clear hz hc1;by_cases h2:c2=0
  ·subst h2;obtain⟨hs1,hs2⟩:=Qz6 f;clear hs1 hc2;cases hsb:Ym (Yn f) 15
   ·rw [hsb]at hs2;have HE:=Qq (show Yy md f=10 by unfold Yy;rw [if_neg (by rw [<-HC1.out];simp),if_neg (by rw [<-HC2.out];simp),if_pos hsb]);clear hsb;go_enter Tryz.func132,Tryz.ntmps132;go_wp2_with(first|(go_at_call 93;refine(Ki _ md _ (HM.out.ext (by repeat(first|exact Qz|assumption|apply Ext.alloc|apply Ext.drew))) HOK.out).mono ?_;rintro e w1 ⟨rfl,hx1⟩;rw [<-HC1.out];have HX1:=Qq (((Ext.refl w).alloc _).trans hx1);have hc1:w1.cell? ⟨w.heap.size,1,none⟩=some (.slice Av md.val.length cv):=(hx1.cell (p:=⟨w.heap.size,1,none⟩) (by simp)).trans (by simp);have hc2:w1.cell? ⟨w.heap.size,2,none⟩=some (.slice Ar md.rel.length cr):=(hx1.cell (p:=⟨w.heap.size,2,none⟩) (by simp)).trans (by simp);have hb1:w.heap.size < w1.heap.size:=Qy (by simp) hx1.size;clear hx1)|(go_at_call 41;refine(Vk _ f _ (HF.out.ext HX1.out).1).mono ?_;rintro e w2 ⟨rfl,hx2⟩;rw [<-HC2.out];have HX2:=Qq (HX1.out.trans hx2);have hd1:=(hx2.cell (p:=⟨w.heap.size,1,none⟩) hb1).trans hc1;have hd2:=(hx2.cell (p:=⟨w.heap.size,2,none⟩) hb1).trans hc2;have hb2:=Qy hb1 hx2.size;clear hx2)|(go_at_call 55;refine(Dy _ f _ (HF.out.ext HX2.out)).mono ?_;rintro e w3 ⟨rfl,hx3⟩;have HX3:=Qq (HX2.out.trans hx3);have he1:=(hx3.cell (p:=⟨w.heap.size,1,none⟩) hb2).trans hd1;have he2:=(hx3.cell (p:=⟨w.heap.size,2,none⟩) hb2).trans hd2;clear hx3))
    go_ret;exact⟨by rw [HE.out] <;> rfl,HX3.out⟩
   rw [hsb]at hs2;cases hfi:Kf f md.rel.length md.val.length
   ·have HE:=Qq (show Yy md f=2 by unfold Yy;rw [if_neg (by rw [<-HC1.out];simp),if_neg (by rw [<-HC2.out];simp),if_neg (by rw [hsb];simp),if_pos hfi]);have HFI:=Qq hfi;clear hsb hfi;go_enter Tryz.func132,Tryz.ntmps132;go_wp2_with(first|(go_at_call 93;refine(Ki _ md _ (HM.out.ext (by repeat(first|exact Qz|assumption|apply Ext.alloc|apply Ext.drew))) HOK.out).mono ?_;rintro e w1 ⟨rfl,hx1⟩;rw [<-HC1.out];have HX1:=Qq (((Ext.refl w).alloc _).trans hx1);have hc1:w1.cell? ⟨w.heap.size,1,none⟩=some (.slice Av md.val.length cv):=(hx1.cell (p:=⟨w.heap.size,1,none⟩) (by simp)).trans (by simp);have hc2:w1.cell? ⟨w.heap.size,2,none⟩=some (.slice Ar md.rel.length cr):=(hx1.cell (p:=⟨w.heap.size,2,none⟩) (by simp)).trans (by simp);have hb1:w.heap.size < w1.heap.size:=Qy (by simp) hx1.size;clear hx1)|(go_at_call 41;refine(Vk _ f _ (HF.out.ext HX1.out).1).mono ?_;rintro e w2 ⟨rfl,hx2⟩;rw [<-HC2.out];have HX2:=Qq (HX1.out.trans hx2);have hd1:=(hx2.cell (p:=⟨w.heap.size,1,none⟩) hb1).trans hc1;have hd2:=(hx2.cell (p:=⟨w.heap.size,2,none⟩) hb1).trans hc2;have hb2:=Qy hb1 hx2.size;clear hx2)|(go_at_call 55;refine(Dy _ f _ (HF.out.ext HX2.out)).mono ?_;rintro e w3 ⟨rfl,hx3⟩;have HX3:=Qq (HX2.out.trans hx3);have he1:=(hx3.cell (p:=⟨w.heap.size,1,none⟩) hb2).trans hd1;have he2:=(hx3.cell (p:=⟨w.heap.size,2,none⟩) hb2).trans hd2;clear hx3)|(go_at_call 185;refine(Qxz _ f md.rel.length md.val.length _ (HF.out.ext HX3.out) hr4 hv8).mono ?_;rintro e w4 ⟨rfl,hx4⟩;rw [HFI.out];have HX4:=Qq (HX3.out.trans hx4);clear hx4))
    go_ret;exact⟨by rw [HE.out] <;> rfl,HX4.out⟩
   have HE:=Qq (show Yy md f=0 by unfold Yy;rw [if_neg (by rw [<-HC1.out];simp),if_neg (by rw [<-HC2.out];simp),if_neg (by rw [hsb];simp),if_neg (by rw [hfi];simp)]);have HFI:=Qq hfi;clear hsb hfi;go_enter Tryz.func132,Tryz.ntmps132;go_wp2_with(first|(go_at_call 93;refine(Ki _ md _ (HM.out.ext (by repeat(first|exact Qz|assumption|apply Ext.alloc|apply Ext.drew))) HOK.out).mono ?_;rintro e w1 ⟨rfl,hx1⟩;rw [<-HC1.out];have HX1:=Qq (((Ext.refl w).alloc _).trans hx1);have hc1:w1.cell? ⟨w.heap.size,1,none⟩=some (.slice Av md.val.length cv):=(hx1.cell (p:=⟨w.heap.size,1,none⟩) (by simp)).trans (by simp);have hc2:w1.cell? ⟨w.heap.size,2,none⟩=some (.slice Ar md.rel.length cr):=(hx1.cell (p:=⟨w.heap.size,2,none⟩) (by simp)).trans (by simp);have hb1:w.heap.size < w1.heap.size:=Qy (by simp) hx1.size;clear hx1)|(go_at_call 41;refine(Vk _ f _ (HF.out.ext HX1.out).1).mono ?_;rintro e w2 ⟨rfl,hx2⟩;rw [<-HC2.out];have HX2:=Qq (HX1.out.trans hx2);have hd1:=(hx2.cell (p:=⟨w.heap.size,1,none⟩) hb1).trans hc1;have hd2:=(hx2.cell (p:=⟨w.heap.size,2,none⟩) hb1).trans hc2;have hb2:=Qy hb1 hx2.size;clear hx2)|(go_at_call 55;refine(Dy _ f _ (HF.out.ext HX2.out)).mono ?_;rintro e w3 ⟨rfl,hx3⟩;have HX3:=Qq (HX2.out.trans hx3);have he1:=(hx3.cell (p:=⟨w.heap.size,1,none⟩) hb2).trans hd1;have he2:=(hx3.cell (p:=⟨w.heap.size,2,none⟩) hb2).trans hd2;clear hx3)|(go_at_call 185;refine(Qxz _ f md.rel.length md.val.length _ (HF.out.ext HX3.out) hr4 hv8).mono ?_;rintro e w4 ⟨rfl,hx4⟩;rw [HFI.out];have HX4:=Qq (HX3.out.trans hx4);clear hx4))
   go_ret;exact⟨by rw [HE.out] <;> rfl,HX4.out⟩
  have hne:(c2 !=0)=true:=by simpa using h2
  have HE:=Qq (show Yy md f=c2 by unfold Yy;rw [if_neg (by rw [<-HC1.out];simp),if_pos (by rw [<-HC2.out];exact h2),HC2.out]);clear h2 hc2;go_enter Tryz.func132,Tryz.ntmps132;go_wp2_with(first|(go_at_call 93;refine(Ki _ md _ (HM.out.ext (by repeat(first|exact Qz|assumption|apply Ext.alloc|apply Ext.drew))) HOK.out).mono ?_;rintro e w1 ⟨rfl,hx1⟩;rw [<-HC1.out];have HX1:=Qq (((Ext.refl w).alloc _).trans hx1);have hc1:w1.cell? ⟨w.heap.size,1,none⟩=some (.slice Av md.val.length cv):=(hx1.cell (p:=⟨w.heap.size,1,none⟩) (by simp)).trans (by simp);have hc2:w1.cell? ⟨w.heap.size,2,none⟩=some (.slice Ar md.rel.length cr):=(hx1.cell (p:=⟨w.heap.size,2,none⟩) (by simp)).trans (by simp);have hb1:w.heap.size < w1.heap.size:=Qy (by simp) hx1.size;clear hx1)|(go_at_call 41;refine(Vk _ f _ (HF.out.ext HX1.out).1).mono ?_;rintro e w2 ⟨rfl,hx2⟩;rw [<-HC2.out];have HX2:=Qq (HX1.out.trans hx2);have hd1:=(hx2.cell (p:=⟨w.heap.size,1,none⟩) hb1).trans hc1;have hd2:=(hx2.cell (p:=⟨w.heap.size,2,none⟩) hb1).trans hc2;have hb2:=Qy hb1 hx2.size;clear hx2))
  go_ret;exact⟨by rw [HE.out] <;> rfl,HX2.out⟩
 have hne:(c1 !=0)=true:=by simpa using h1
 have HE:=Qq (show Yy md f=c1 by unfold Yy;rw [if_pos (by rw [<-HC1.out];exact h1),HC1.out]);clear h1 hc1 hc2;go_enter Tryz.func132,Tryz.ntmps132;go_wp2_with(go_at_call 93;refine(Ki _ md _ (HM.out.ext (by repeat(first|exact Qz|assumption|apply Ext.alloc|apply Ext.drew))) HOK.out).mono ?_;rintro e w1 ⟨rfl,hx1⟩;rw [<-HC1.out];have HX1:=Qq (((Ext.refl w).alloc _).trans hx1);have hc1:w1.cell? ⟨w.heap.size,1,none⟩=some (.slice Av md.val.length cv):=(hx1.cell (p:=⟨w.heap.size,1,none⟩) (by simp)).trans (by simp);have hc2:w1.cell? ⟨w.heap.size,2,none⟩=some (.slice Ar md.rel.length cr):=(hx1.cell (p:=⟨w.heap.size,2,none⟩) (by simp)).trans (by simp);have hb1:w.heap.size < w1.heap.size:=Qy (by simp) hx1.size;clear hx1)
 go_ret;exact⟨by rw [HE.out] <;> rfl,HX1.out⟩
theorem Qh2 {md:Md}(hck:Zj md=0) {n:Nd} {x y:Nat}(hx:x < 2^md.n.toNat)(hy:y < 2^md.n.toNat):Vq md n x y < 2^md.n.toNat:=by
 unfold Vq
 split
 ·exact Qe7 hck hx hy
 exact Nat.two_pow_pos _
theorem Qqx {md:Md}(hck:Zj md=0)(f:List Nd):∀k,∀s∈(Jq md f k).1,s < 2^md.n.toNat
 |0,s,h=>by cases h
 |k+1,s,h=>by
  have ih:=Qqx hck f k;have h2:s∈(Jq md f k).1++ [(atP md f (Jq md f k).1 (Jq md f k).2 k).1]:=h;rcases List.mem_append.1 h2 with h2|h2
  ·exact ih s h2
  rw [List.mem_singleton.1 h2];unfold atP
  split
  ·exact Qh2 hck (Wz ih (Nat.two_pow_pos _) _) (Wz ih (Nat.two_pow_pos _) _)
  exact Nat.two_pow_pos _
theorem Qk5 {md:Md}(hck:Zj md=0)(f:List Nd):Gp md f < 2^md.n.toNat:=Wz (Qqx hck f _) (Nat.two_pow_pos _) _
theorem Qo8 {n s:Nat}(hs:s < 2^n)(h:∀i,i < n->s.testBit i=true):s=Zx n:=Nat.eq_of_testBit_eq fun i=>by
 rw [Vl];by_cases hi:i < n
 ·rw [h i hi,decide_eq_true hi]
 rw [decide_eq_false hi];cases hb:s.testBit i
 ·rfl
 exact absurd (Ky hs hb) hi
def Qz9:Prop:=∀(vm v:Value) (md:Md) (f:List Nd) (w:World),MdV w vm md->md.ok->Fml w v f->
 Calls Tryz.prog 62 #[vm,v] w fun e w'=>∃u,e=.returned (.tuple #[u,.int .i64 (Yy md f)])/\Ext w w'/\Hid (Yy md f=0->Jv w' u (Jq md f f.length).1)
theorem Qxj(HSS:Qz9)(vm v:Value)(md:Md)(f:List Nd)(w:World)(hm:MdV w vm md)(hok:md.ok)(h:Fml w v f):
 Calls Tryz.prog 21 #[vm,v] w fun e w'=>e=.returned (.tuple #[.int .u64 ((if Yy md f=0 then Gp md f else 0:Nat):Int),.int .i64 (Yy md f)])/\Ext w w':=by
 have HM:=Qq hm;have HF:=Qq h;have HS:=Qq (fun w hm h=>HSS vm v md f w hm hok h);obtain⟨vv,vr,rfl,hv,hr⟩:=hm;obtain⟨c1,hc1⟩:∃z,z=Yy md f:=⟨_,rfl⟩;have HC1:=Qq hc1;rw [<-hc1]at HS⊢;clear h hok HSS hv hr hc1;by_cases h1:c1=0
 ·subst h1;obtain⟨_,hc,_,_⟩:=Ks HC1.out.symm;have hp:=(Jr hc).1;have hlen:=(Uk md f f.length).1;have HH:=Qq (show Gp md f=(Jq md f f.length).1.getD (f.length - 1) 0 from rfl);go_enter Tryz.func21,Tryz.ntmps21;go_wp2_with fail;refine(HS.out _ (HM.out.ext ((Ext.refl w).alloc _)) (HF.out.ext ((Ext.refl w).alloc _))).mono ?_;rintro e w2 ⟨u,rfl,hx,hu⟩;obtain⟨A,c,rfl,_,_,HR⟩:=Gy (hu.out (by trivial));have HX:=Qq (((Ext.refl w).alloc _).trans hx);obtain⟨ad,rfl,hadl,hcz⟩:=HR.out (f.length - 1) (by rw [hlen];omega);rw [hlen];rw [<-HH.out]at hcz;have h200:=(Jr hc).2.1
  have hi0:wrap64 ((f.length:Int) - 1)=((f.length - 1:Nat):Int):=by unfold wrap64;omega
  have hi3:((f.length - 1:Nat):Int) < (f.length:Int):=by omega
  have hi1:(f.length:Int) - 1 < (f.length:Int):=by omega
  have hi2:((f.length:Int) - 1).toNat=f.length - 1:=by omega
  clear hx hu hc hlen;go_wp2_with fail;go_ret2;exact⟨rfl,HX.out⟩
 have hne:(c1 !=0)=true:=by simpa using h1
 rw [if_neg h1];clear h1;go_enter Tryz.func21,Tryz.ntmps21;go_wp2_with fail;refine(HS.out _ (HM.out.ext ((Ext.refl w).alloc _)) (HF.out.ext ((Ext.refl w).alloc _))).mono ?_;rintro e w2 ⟨u,rfl,hx,hu⟩;have HX:=Qq (((Ext.refl w).alloc _).trans hx);clear hx hu;go_wp2_with fail;go_ret2;exact⟨rfl,HX.out⟩
def szU(md:Md)(f:List Nd)(k:Nat):List Nat:=(Jq md f k).1++List.replicate (f.length - k) 0
def szF(md:Md)(f:List Nd)(k:Nat):List Bool:=(Jq md f k).2++List.replicate (f.length - k) false
section
variable {md:Md} {f:List Nd} {k:Nat}
theorem Qw1(h:k<=f.length):(szU md f k).length=f.length:=by
 unfold szU;rw [List.length_append,List.length_replicate,(Uk md f k).1];omega
theorem Qwi(h:k<=f.length):(szF md f k).length=f.length:=by
 unfold szF;rw [List.length_append,List.length_replicate,(Uk md f k).2];omega
theorem Qkt(i:Nat):(szU md f k).getD i 0=(Jq md f k).1.getD i 0:=by
 unfold szU;rw [Qk,Qk];rcases Nat.lt_or_ge i (Jq md f k).1.length with h|h
 ·rw [List.getElem?_append_left h]
 rw [List.getElem?_append_right h,List.getElem?_replicate,List.getElem?_eq_none h]
 split <;> rfl
theorem Qn8(i:Nat):(szF md f k).getD i false=(Jq md f k).2.getD i false:=by
 unfold szF;rw [Qk,Qk];rcases Nat.lt_or_ge i (Jq md f k).2.length with h|h
 ·rw [List.getElem?_append_left h]
 rw [List.getElem?_append_right h,List.getElem?_replicate,List.getElem?_eq_none h]
 split <;> rfl
theorem Qmt {b:Bool} {x:Int}(h:k < f.length)(h1:b=true->0<=x/\x < k)(h2:b=false->x=0):∃ix:Nat,x=(ix:Int)/\ix < f.length:=by
 cases b
 ·exact⟨0,h2 rfl,by omega⟩
 obtain⟨h3,h4⟩:=h1 rfl;exact⟨x.toNat,by omega,by omega⟩
theorem Qhc:szU md f 0=List.replicate f.length 0:=rfl
theorem Qhp:szF md f 0=List.replicate f.length false:=rfl
theorem Qw0:szU md f f.length=(Jq md f f.length).1:=by
 unfold szU;rw [Nat.sub_self];simp
theorem Qn6 {α:Type}(l:List α)(n:Nat)(z v:α):(l++List.replicate (n+1) z).set l.length v=l++ [v]++List.replicate n z:=by
 rw [List.set_append_right _ _ (Nat.le_refl _),Nat.sub_self,List.replicate_succ,List.set_cons_zero];simp
theorem Qbm(h:k < f.length):szU md f (k+1)=(szU md f k).set k (atP md f (Jq md f k).1 (Jq md f k).2 k).1:=by
 have h1:=(Uk md f k).1;have h2:=Qn6 (Jq md f k).1 (f.length - (k+1)) 0 (atP md f (Jq md f k).1 (Jq md f k).2 k).1;rw [h1,show f.length - (k+1)+1=f.length - k by omega]at h2;exact h2.symm
theorem Qbl(h:k < f.length):szF md f (k+1)=(szF md f k).set k (atP md f (Jq md f k).1 (Jq md f k).2 k).2:=by
 have h1:=(Uk md f k).2;have h2:=Qn6 (Jq md f k).2 (f.length - (k+1)) false (atP md f (Jq md f k).1 (Jq md f k).2 k).2;rw [h1,show f.length - (k+1)+1=f.length - k by omega]at h2;exact h2.symm
theorem Qxl {α:Type} {l:List α} {i:Nat} {z:α}(h:l[i]?=some z):l.set i z=l:=by
 refine List.ext_getElem? fun j=> ?_
 rw [List.getElem?_set];by_cases e:i=j
 ·subst e;rw [if_pos rfl,h];simp [(List.getElem?_eq_some_iff.1 h).1]
 rw [if_neg e]
theorem Qw2(h:k < f.length)(ho:okP (f.getD k Nd.zero) (Jq md f k).2=false):szU md f (k+1)=szU md f k/\szF md f (k+1)=szF md f k:=by
 have e:atP md f (Jq md f k).1 (Jq md f k).2 k=(0,false):=by unfold atP;rw [ho];rfl
 refine⟨?_,?_⟩
 ·rw [Qbm h,e];refine Qxl ?_;unfold szU;have h1:=(Uk md f k).1;rw [List.getElem?_append_right (by omega),List.getElem?_replicate,if_pos (by omega)]
 rw [Qbl h,e];refine Qxl ?_;unfold szF;have h1:=(Uk md f k).2;rw [List.getElem?_append_right (by omega),List.getElem?_replicate,if_pos (by omega)]
theorem Zz6(h:k < f.length) {n:Nd}(hn:f.getD k Nd.zero=n)(ho:okP n (Jq md f k).2=true):
 szU md f (k+1)=(szU md f k).set k (Vq md n ((szU md f k).getD n.x.toNat 0) ((szU md f k).getD n.y.toNat 0))/\szF md f (k+1)=(szF md f k).set k (Zw md n):=by
 have e:atP md f (Jq md f k).1 (Jq md f k).2 k=(Vq md n ((Jq md f k).1.getD n.x.toNat 0) ((Jq md f k).1.getD n.y.toNat 0),Zw md n):=by unfold atP;rw [hn,ho];rfl
 rw [Qbm h,Qbl h,e,Qkt,Qkt];exact⟨rfl,rfl⟩
end
def Uw(base:Nat)(w:World)(g:Nat)(l:List Nat):Prop:=w.ownsRow base 41 1 (.slice (some ⟨g,0,none⟩) l.length l.length) l.length (uV l)
def Uj(base:Nat)(w:World)(g:Nat)(l:List Bool):Prop:=w.ownsRow base 4 1 (.slice (some ⟨g,0,none⟩) l.length l.length) l.length (l.map Value.bool)
section
variable {base:Nat} {w w':World} {g:Nat} {l:List Nat} {m:List Bool}
theorem Uw.cell(h:Uw base w g l) {j:Nat}(hj:j < l.length):w.cell? ⟨g,j,none⟩=some (.int .u64 ((l.getD j 0:Nat):Int)):=by
 rw [World.ownsRow.cellAt h j (by omega)];unfold uV;rw [List.getElem?_map,Qk,Qv hj];rfl
theorem Uj.cell(h:Uj base w g m) {j:Nat}(hj:j < m.length):w.cell? ⟨g,j,none⟩=some (.bool (m.getD j false)):=by
 rw [World.ownsRow.cellAt h j (by omega),List.getElem?_map,Qk,Qv hj];rfl
theorem Uw.frozen(h:Uw base w g l)(j:Nat):w.frozen? ⟨g,j,none⟩=false:=World.ownsRow.frozenAt h j
theorem Uj.frozen(h:Uj base w g m)(j:Nat):w.frozen? ⟨g,j,none⟩=false:=World.ownsRow.frozenAt h j
theorem Uw.lt(h:Uw base w g l):base<=g/\g < w.heap.size:=World.ownsRow.lt h g rfl
theorem Uj.lt(h:Uj base w g m):base<=g/\g < w.heap.size:=World.ownsRow.lt h g rfl
theorem Uw.set(h:Uw base w g l)(j s:Nat):Uw base (w.setCell ⟨g,j,none⟩ (.int .u64 (s:Int))) g (l.set j s)/\w.grownBy (w.setCell ⟨g,j,none⟩ (.int .u64 (s:Int))) (some g):=by
 obtain⟨h1,h2⟩:=World.ownsRow.stored h j (.int .u64 (s:Int));refine⟨?_,h2⟩;unfold Uw uV;unfold uV at h1;rw [List.length_set,List.map_set];exact h1
theorem Uj.set(h:Uj base w g m)(j:Nat)(b:Bool):Uj base (w.setCell ⟨g,j,none⟩ (.bool b)) g (m.set j b)/\w.grownBy (w.setCell ⟨g,j,none⟩ (.bool b)) (some g):=by
 obtain⟨h1,h2⟩:=World.ownsRow.stored h j (.bool b);refine⟨?_,h2⟩;unfold Uj;rw [List.length_set,<-List.map_set]at *;exact h1
theorem Uw.ext(h:Uw base w g l)(he:Ext w w'):Uw base w' g l:=Zf h he
theorem Uj.ext(h:Uj base w g m)(he:Ext w w'):Uj base w' g m:=Zf h he
theorem Uw.kept {r:Nat}(h:Uw base w g l)(hg:w.grownBy w' (some r))(hr:r≠g):Uw base w' g l:=World.ownsRow.kept h hg (.inr fun e=>hr (by injection e with e;exact e.symm))
theorem Uj.kept {r:Nat}(h:Uj base w g m)(hg:w.grownBy w' (some r))(hr:r≠g):Uj base w' g m:=World.ownsRow.kept h hg (.inr fun e=>hr (by injection e with e;exact e.symm))
theorem Uw.u64s(h:Uw base w g l):Jv w (.slice (some ⟨g,0,none⟩) l.length l.length) l:=Jn.u64s h
end
theorem Qw4:(Tryz.prog.info? 4).map (fun i=>(i.zero,i.size,i.bytes))=some (some (.bool false),1,1):=by kernel_rfl
theorem Qsa(n:Nat):(madeCells (Value.cells (.int .u64 0)) (n*1)).toList=uV (List.replicate n 0):=by
 unfold uV;simp only [madeCells,Value.cells,Nat.mul_one,Array.toList_map,Array.toList_range,List.map_replicate];refine List.ext_getElem (by simp) fun i h1 h2=> ?_
 simp [Nat.mod_one]
theorem Qdd(n:Nat):(madeCells (Value.cells (.bool false)) (n*1)).toList=(List.replicate n false).map Value.bool:=by
 simp only [madeCells,Value.cells,Nat.mul_one,Array.toList_map,Array.toList_range,List.map_replicate];refine List.ext_getElem (by simp) fun i h1 h2=> ?_
 simp [Nat.mod_one]
theorem Qdn(n:Nat):(madeCells #[.int .u64 0] n).toList=uV (List.replicate n 0):=by
 have:=Qsa n;rw [Nat.mul_one]at this;exact this
theorem Qf0(n:Nat):(madeCells #[.bool false] n).toList=(List.replicate n false).map Value.bool:=by
 have:=Qdd n;rw [Nat.mul_one]at this;exact this
end Go.Proofs.YtkmclcmnoicagaaGreatDoor
