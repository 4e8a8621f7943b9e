/- The program's Fits and request. -/
import Derived.Test.YtkmclcmnoicagaaGreatDoorT42
import Derived.Test.YtkmclcmnoicagaaGreatDoorT44
namespace Go.Proofs.YtkmclcmnoicagaaGreatDoor
set_option maxRecDepth 100000
set_option maxHeartbeats 128000000
open Go.RowKit
theorem Qxj(m n:Nat):((m:Int) / 2^n==0)=decide (m < 2^n):=by
 have e:((m:Int) / 2^n)=((m / 2^n:Nat):Int):=by simp
 rw [e,Bool.eq_iff_iff,beq_iff_eq,decide_eq_true_eq];have:=Nat.div_eq_zero_iff (a:=m) (b:=2^n);have hp:=Nat.two_pow_pos n;omega
theorem Qt7 {m k a:Nat}(hm:m < 2^k):(List.range k).all (Kb a m)=decide (m < 2^a):=by
 rw [Bool.eq_iff_iff,List.all_eq_true,decide_eq_true_eq];refine⟨fun h=>Qz7 fun i hi=> ?_,fun h i hi=> ?_⟩
 ·have h2:=h i (List.mem_range.2 (Vm hm hi));unfold Kb at h2;rw [hi]at h2
  simpa using h2
 unfold Kb;cases hb:m.testBit i
 ·rfl
 rw [decide_eq_true (Vm h hb)];rfl
theorem Qym(m n:Nat)(w:World)(_hm:m < 512)(hn:n<=8):Calls Tryz.prog 208 #[.int .i64 (m:Int),.int .i64 (n:Int)] w fun e w'=>e=.returned (.bool (decide (m < 2^n)))/\w=w':=by
 have hn31:¬(31:Int)<=(n:Int):=by omega
 have hmax:max (n:Int) 0=(n:Int):=by omega
 have hmin:min n 64=n:=by omega
 have HD:=Qq (Qxj m n);go_enter Tryz.func208,Tryz.ntmps208;go_wp2_with fail;go_ret;exact⟨by rw [<-HD.out] <;> rfl,rfl⟩
theorem Qkx(v:Value)(f:List Nd)(a b:Nat)(w:World)(h:Fml w v f)(ha:a<=4)(hb:b<=8):
 Calls Tryz.prog 185 #[v,.int .i64 (a:Int),.int .i64 (b:Int)] w fun e w'=>e=.returned (.bool (Yg f a b))/\Ext w w':=by
 have H:=Qq h;clear h;by_cases hc:check f=0
 ·have HC:=Qq hc;have hh:=(Jf hc).2.2.2;have hma:Jn (Qg f) < 2^4:=Ni _ 0 hh (by decide);have hmf:Je (Qg f) < 2^8:=Ss _ 0 hh (by decide);have HF:=Qq (show Yg f a b=(decide (Jn (Qg f) < 2^a)&&decide (Je (Qg f) < 2^b)) by
   unfold Yg;rw [Qt7 hma,Qt7 hmf,HC.out]
   rfl)
  have HA:=Qq (fun(w:World) (h:Fml w v f)=>Qq1 v f w h hc);have HB:=Qq (fun(w:World) (h:Fml w v f)=>Qyq v f w h hc);obtain⟨ma,hmae⟩:∃m,m=Jn (Qg f):=⟨_,rfl⟩;obtain⟨mf,hmfe⟩:∃m,m=Je (Qg f):=⟨_,rfl⟩;rw [<-hmae]at hma HF HA;rw [<-hmfe]at hmf HF HB;have hma5:ma < 512:=by omega
  have hmf5:mf < 512:=by omega
  clear hmae hmfe hma hmf hh hc;cases hd:decide (ma < 2^a)
  ·have HD:=Qq hd;have HE:=Qq (show Yg f a b=false by rw [HF.out,HD.out];rfl);clear hd;go_enter Tryz.func185,Tryz.ntmps185;go_wp2_with(first|(go_at_call 41;refine(Vn _ f _ H.out.1).mono ?_;rintro e w1 ⟨rfl,hx1⟩;rw [HC.out];have HX1:=Qq hx1;clear hx1)|(go_at_call 66;refine(HA.out _ (H.out.ext HX1.out)).mono ?_;rintro e w2 ⟨rfl,hx2⟩;have HX2:=Qq (HX1.out.trans hx2);clear hx2)|(go_at_call 208;refine(Qym ma a _ hma5 (by omega)).mono ?_;rintro e w3 ⟨rfl,rfl⟩;rw [HD.out]));go_ret;exact⟨by rw [HE.out] <;> rfl,HX2.out⟩
  have HD:=Qq hd;have HE:=Qq (show Yg f a b=decide (mf < 2^b) by rw [HF.out,HD.out];rfl);clear hd;go_enter Tryz.func185,Tryz.ntmps185;go_wp2_with(first|(go_at_call 41;refine(Vn _ f _ H.out.1).mono ?_;rintro e w1 ⟨rfl,hx1⟩;rw [HC.out];have HX1:=Qq hx1;clear hx1)|(go_at_call 66;refine(HA.out _ (H.out.ext HX1.out)).mono ?_;rintro e w2 ⟨rfl,hx2⟩;have HX2:=Qq (HX1.out.trans hx2);clear hx2)|(go_at_call 67;refine(HB.out _ (H.out.ext HX2.out)).mono ?_;rintro e w4 ⟨rfl,hx4⟩;have HX4:=Qq (HX2.out.trans hx4);clear hx4)|(go_at_call 208;refine(Qym _ _ _ (by first|with_reducible exact hma5|with_reducible exact hmf5) (by omega)).mono ?_;rintro e w3 ⟨rfl,rfl⟩;try rw [HD.out]))
  go_ret;exact⟨by rw [HE.out] <;> rfl,HX4.out⟩
 have HE:=Qq (show Yg f a b=false by
  unfold Yg;rw [show(check f==0)=false by simpa using hc]
  rfl)
 obtain⟨z,hz⟩:∃z,z=check f:=⟨_,rfl⟩;have HZ:=Qq hz;rw [<-hz]at hc;have hne:(z==0)=false:=by simpa using hc
 clear hc hz;go_enter Tryz.func185,Tryz.ntmps185;go_wp2_with(go_at_call 41;refine(Vn _ f _ H.out.1).mono ?_;rintro e w1 ⟨rfl,hx1⟩;rw [<-HZ.out];have HX1:=Qq hx1;clear hx1);go_ret;exact⟨by rw [HE.out] <;> rfl,HX1.out⟩
theorem Qfk(vm v:Value)(md:Md)(f:List Nd)(w:World)(hm:MdV w vm md)(hok:md.ok)(h:Fml w v f):
 Calls Tryz.prog 132 #[vm,v] w fun e w'=>e=.returned (.int .i64 (Jr md f))/\Ext w w':=by
 have HM:=Qq hm;have HOK:=Qq hok;have HF:=Qq h;obtain⟨vv,vr,rfl,hv,hr⟩:=hm;obtain⟨Av,cv,rfl,_⟩:=hv;obtain⟨Ar,cr,rfl,_⟩:=hr;obtain⟨c1,hc1⟩:∃z,z=Zy md:=⟨_,rfl⟩;have HC1:=Qq hc1;obtain⟨c2,hc2⟩:∃z,z=check f:=⟨_,rfl⟩;have HC2:=Qq hc2;clear h hok;by_cases h1:c1=0
 ·have hz:=Jv (show Zy md=0 by rw [<-HC1.out];exact h1);have hr4:=hz.2.2.1;have hv8:=hz.2.2.2.1;subst h1;clear hz hc1;by_cases h2:c2=0
  ·subst h2;obtain⟨hs1,hs2⟩:=Qb2 f;clear hs1 hc2;cases hsb:Yw (Jh f) 15
   ·rw [hsb]at hs2;have HE:=Qq (show Jr md f=10 by unfold Jr;rw [if_neg (by rw [<-HC1.out];simp),if_neg (by rw [<-HC2.out];simp),if_pos hsb]);clear hsb;go_enter Tryz.func132,Tryz.ntmps132;go_wp2_with(first|(go_at_call 93;refine(Fg _ md _ (HM.out.ext (by repeat(first|exact Qz|assumption|apply Ext.alloc|apply Ext.drew))) HOK.out).mono ?_;rintro e w1 ⟨rfl,hx1⟩;rw [<-HC1.out];have HX1:=Qq (((Ext.refl w).alloc _).trans hx1);have hc1:w1.cell? ⟨w.heap.size,1,none⟩=some (.slice Av md.val.length cv):=(hx1.cell (p:=⟨w.heap.size,1,none⟩) (by simp)).trans (by simp);have hc2:w1.cell? ⟨w.heap.size,2,none⟩=some (.slice Ar md.rel.length cr):=(hx1.cell (p:=⟨w.heap.size,2,none⟩) (by simp)).trans (by simp);have hb1:w.heap.size < w1.heap.size:=Qy (by simp) hx1.size;clear hx1)|(go_at_call 41;refine(Vn _ f _ (HF.out.ext HX1.out).1).mono ?_;rintro e w2 ⟨rfl,hx2⟩;rw [<-HC2.out];have HX2:=Qq (HX1.out.trans hx2);have hd1:=(hx2.cell (p:=⟨w.heap.size,1,none⟩) hb1).trans hc1;have hd2:=(hx2.cell (p:=⟨w.heap.size,2,none⟩) hb1).trans hc2;have hb2:=Qy hb1 hx2.size;clear hx2)|(go_at_call 55;refine(Ry _ f _ (HF.out.ext HX2.out)).mono ?_;rintro e w3 ⟨rfl,hx3⟩;have HX3:=Qq (HX2.out.trans hx3);have he1:=(hx3.cell (p:=⟨w.heap.size,1,none⟩) hb2).trans hd1;have he2:=(hx3.cell (p:=⟨w.heap.size,2,none⟩) hb2).trans hd2;clear hx3))
    go_ret;exact⟨by rw [HE.out] <;> rfl,HX3.out⟩
   rw [hsb]at hs2;cases hfi:Yg f md.rel.length md.val.length
   ·have HE:=Qq (show Jr md f=2 by unfold Jr;rw [if_neg (by rw [<-HC1.out];simp),if_neg (by rw [<-HC2.out];simp),if_neg (by rw [hsb];simp),if_pos hfi]);have HFI:=Qq hfi;clear hsb hfi;go_enter Tryz.func132,Tryz.ntmps132;go_wp2_with(first|(go_at_call 93;refine(Fg _ md _ (HM.out.ext (by repeat(first|exact Qz|assumption|apply Ext.alloc|apply Ext.drew))) HOK.out).mono ?_;rintro e w1 ⟨rfl,hx1⟩;rw [<-HC1.out];have HX1:=Qq (((Ext.refl w).alloc _).trans hx1);have hc1:w1.cell? ⟨w.heap.size,1,none⟩=some (.slice Av md.val.length cv):=(hx1.cell (p:=⟨w.heap.size,1,none⟩) (by simp)).trans (by simp);have hc2:w1.cell? ⟨w.heap.size,2,none⟩=some (.slice Ar md.rel.length cr):=(hx1.cell (p:=⟨w.heap.size,2,none⟩) (by simp)).trans (by simp);have hb1:w.heap.size < w1.heap.size:=Qy (by simp) hx1.size;clear hx1)|(go_at_call 41;refine(Vn _ f _ (HF.out.ext HX1.out).1).mono ?_;rintro e w2 ⟨rfl,hx2⟩;rw [<-HC2.out];have HX2:=Qq (HX1.out.trans hx2);have hd1:=(hx2.cell (p:=⟨w.heap.size,1,none⟩) hb1).trans hc1;have hd2:=(hx2.cell (p:=⟨w.heap.size,2,none⟩) hb1).trans hc2;have hb2:=Qy hb1 hx2.size;clear hx2)|(go_at_call 55;refine(Ry _ f _ (HF.out.ext HX2.out)).mono ?_;rintro e w3 ⟨rfl,hx3⟩;have HX3:=Qq (HX2.out.trans hx3);have he1:=(hx3.cell (p:=⟨w.heap.size,1,none⟩) hb2).trans hd1;have he2:=(hx3.cell (p:=⟨w.heap.size,2,none⟩) hb2).trans hd2;clear hx3)|(go_at_call 185;refine(Qkx _ f md.rel.length md.val.length _ (HF.out.ext HX3.out) hr4 hv8).mono ?_;rintro e w4 ⟨rfl,hx4⟩;rw [HFI.out];have HX4:=Qq (HX3.out.trans hx4);clear hx4))
    go_ret;exact⟨by rw [HE.out] <;> rfl,HX4.out⟩
   have HE:=Qq (show Jr md f=0 by unfold Jr;rw [if_neg (by rw [<-HC1.out];simp),if_neg (by rw [<-HC2.out];simp),if_neg (by rw [hsb];simp),if_neg (by rw [hfi];simp)]);have HFI:=Qq hfi;clear hsb hfi;go_enter Tryz.func132,Tryz.ntmps132;go_wp2_with(first|(go_at_call 93;refine(Fg _ md _ (HM.out.ext (by repeat(first|exact Qz|assumption|apply Ext.alloc|apply Ext.drew))) HOK.out).mono ?_;rintro e w1 ⟨rfl,hx1⟩;rw [<-HC1.out];have HX1:=Qq (((Ext.refl w).alloc _).trans hx1);have hc1:w1.cell? ⟨w.heap.size,1,none⟩=some (.slice Av md.val.length cv):=(hx1.cell (p:=⟨w.heap.size,1,none⟩) (by simp)).trans (by simp);have hc2:w1.cell? ⟨w.heap.size,2,none⟩=some (.slice Ar md.rel.length cr):=(hx1.cell (p:=⟨w.heap.size,2,none⟩) (by simp)).trans (by simp);have hb1:w.heap.size < w1.heap.size:=Qy (by simp) hx1.size;clear hx1)|(go_at_call 41;refine(Vn _ f _ (HF.out.ext HX1.out).1).mono ?_;rintro e w2 ⟨rfl,hx2⟩;rw [<-HC2.out];have HX2:=Qq (HX1.out.trans hx2);have hd1:=(hx2.cell (p:=⟨w.heap.size,1,none⟩) hb1).trans hc1;have hd2:=(hx2.cell (p:=⟨w.heap.size,2,none⟩) hb1).trans hc2;have hb2:=Qy hb1 hx2.size;clear hx2)|(go_at_call 55;refine(Ry _ f _ (HF.out.ext HX2.out)).mono ?_;rintro e w3 ⟨rfl,hx3⟩;have HX3:=Qq (HX2.out.trans hx3);have he1:=(hx3.cell (p:=⟨w.heap.size,1,none⟩) hb2).trans hd1;have he2:=(hx3.cell (p:=⟨w.heap.size,2,none⟩) hb2).trans hd2;clear hx3)|(go_at_call 185;refine(Qkx _ f md.rel.length md.val.length _ (HF.out.ext HX3.out) hr4 hv8).mono ?_;rintro e w4 ⟨rfl,hx4⟩;rw [HFI.out];have HX4:=Qq (HX3.out.trans hx4);clear hx4))
   go_ret;exact⟨by rw [HE.out] <;> rfl,HX4.out⟩
  have hne:(c2 !=0)=true:=by simpa using h2
  have HE:=Qq (show Jr md f=c2 by unfold Jr;rw [if_neg (by rw [<-HC1.out];simp),if_pos (by rw [<-HC2.out];exact h2),HC2.out]);clear h2 hc2;go_enter Tryz.func132,Tryz.ntmps132;go_wp2_with(first|(go_at_call 93;refine(Fg _ md _ (HM.out.ext (by repeat(first|exact Qz|assumption|apply Ext.alloc|apply Ext.drew))) HOK.out).mono ?_;rintro e w1 ⟨rfl,hx1⟩;rw [<-HC1.out];have HX1:=Qq (((Ext.refl w).alloc _).trans hx1);have hc1:w1.cell? ⟨w.heap.size,1,none⟩=some (.slice Av md.val.length cv):=(hx1.cell (p:=⟨w.heap.size,1,none⟩) (by simp)).trans (by simp);have hc2:w1.cell? ⟨w.heap.size,2,none⟩=some (.slice Ar md.rel.length cr):=(hx1.cell (p:=⟨w.heap.size,2,none⟩) (by simp)).trans (by simp);have hb1:w.heap.size < w1.heap.size:=Qy (by simp) hx1.size;clear hx1)|(go_at_call 41;refine(Vn _ f _ (HF.out.ext HX1.out).1).mono ?_;rintro e w2 ⟨rfl,hx2⟩;rw [<-HC2.out];have HX2:=Qq (HX1.out.trans hx2);have hd1:=(hx2.cell (p:=⟨w.heap.size,1,none⟩) hb1).trans hc1;have hd2:=(hx2.cell (p:=⟨w.heap.size,2,none⟩) hb1).trans hc2;have hb2:=Qy hb1 hx2.size;clear hx2))
  go_ret;exact⟨by rw [HE.out] <;> rfl,HX2.out⟩
 have hne:(c1 !=0)=true:=by simpa using h1
 have HE:=Qq (show Jr md f=c1 by unfold Jr;rw [if_pos (by rw [<-HC1.out];exact h1),HC1.out]);clear h1 hc1 hc2;go_enter Tryz.func132,Tryz.ntmps132;go_wp2_with(go_at_call 93;refine(Fg _ md _ (HM.out.ext (by repeat(first|exact Qz|assumption|apply Ext.alloc|apply Ext.drew))) HOK.out).mono ?_;rintro e w1 ⟨rfl,hx1⟩;rw [<-HC1.out];have HX1:=Qq (((Ext.refl w).alloc _).trans hx1);have hc1:w1.cell? ⟨w.heap.size,1,none⟩=some (.slice Av md.val.length cv):=(hx1.cell (p:=⟨w.heap.size,1,none⟩) (by simp)).trans (by simp);have hc2:w1.cell? ⟨w.heap.size,2,none⟩=some (.slice Ar md.rel.length cr):=(hx1.cell (p:=⟨w.heap.size,2,none⟩) (by simp)).trans (by simp);have hb1:w.heap.size < w1.heap.size:=Qy (by simp) hx1.size;clear hx1)
 go_ret;exact⟨by rw [HE.out] <;> rfl,HX1.out⟩
theorem Qhi {md:Md}(hck:Zy md=0) {n:Nd} {x y:Nat}(hx:x < 2^md.n.toNat)(hy:y < 2^md.n.toNat):Yp md n x y < 2^md.n.toNat:=by
 unfold Yp
 split
 ·exact Qe0 hck hx hy
 exact Nat.two_pow_pos _
theorem Oo {md:Md}(hck:Zy md=0)(f:List Nd):∀k,∀s∈(Jy md f k).1,s < 2^md.n.toNat
 |0,s,h=>by cases h
 |k+1,s,h=>by
  have ih:=Oo hck f k;have h2:s∈(Jy md f k).1++ [(atP md f (Jy md f k).1 (Jy md f k).2 k).1]:=h;rcases List.mem_append.1 h2 with h2|h2
  ·exact ih s h2
  rw [List.mem_singleton.1 h2];unfold atP
  split
  ·exact Qhi hck (Hw ih (Nat.two_pow_pos _) _) (Hw ih (Nat.two_pow_pos _) _)
  exact Nat.two_pow_pos _
theorem Qkq {md:Md}(hck:Zy md=0)(f:List Nd):Fe md f < 2^md.n.toNat:=Hw (Oo hck f _) (Nat.two_pow_pos _) _
theorem Qoa {n s:Nat}(hs:s < 2^n)(h:∀i,i < n->s.testBit i=true):s=Zl n:=Nat.eq_of_testBit_eq fun i=>by
 rw [Xy];by_cases hi:i < n
 ·rw [h i hi,decide_eq_true hi]
 rw [decide_eq_false hi];cases hb:s.testBit i
 ·rfl
 exact absurd (Vm hs hb) hi
def Qxi:Prop:=∀(vm v:Value) (md:Md) (f:List Nd) (w:World),MdV w vm md->md.ok->Fml w v f->
 Calls Tryz.prog 62 #[vm,v] w fun e w'=>∃u,e=.returned (.tuple #[u,.int .i64 (Jr md f)])/\Ext w w'/\Hid (Jr md f=0->Ji w' u (Jy md f f.length).1)
theorem Od(HSS:Qxi)(vm v:Value)(md:Md)(f:List Nd)(w:World)(hm:MdV w vm md)(hok:md.ok)(h:Fml w v f):
 Calls Tryz.prog 21 #[vm,v] w fun e w'=>e=.returned (.tuple #[.int .u64 ((if Jr md f=0 then Fe md f else 0:Nat):Int),.int .i64 (Jr md f)])/\Ext w w':=by
 have HM:=Qq hm;have HF:=Qq h;have HS:=Qq (fun w hm h=>HSS vm v md f w hm hok h);obtain⟨vv,vr,rfl,hv,hr⟩:=hm;obtain⟨c1,hc1⟩:∃z,z=Jr md f:=⟨_,rfl⟩;have HC1:=Qq hc1;rw [<-hc1]at HS⊢;clear h hok HSS hv hr hc1;by_cases h1:c1=0
 ·subst h1;obtain⟨_,hc,_,_⟩:=Ya HC1.out.symm;have hp:=(Zm hc).1;have hlen:=(Gw md f f.length).1;have HH:=Qq (show Fe md f=(Jy md f f.length).1.getD (f.length - 1) 0 from rfl);go_enter Tryz.func21,Tryz.ntmps21;go_wp2_with fail;refine(HS.out _ (HM.out.ext ((Ext.refl w).alloc _)) (HF.out.ext ((Ext.refl w).alloc _))).mono ?_;rintro e w2 ⟨u,rfl,hx,hu⟩;obtain⟨A,c,rfl,_,_,HR⟩:=Gc (hu.out (by trivial));have HX:=Qq (((Ext.refl w).alloc _).trans hx);obtain⟨ad,rfl,hadl,hcz⟩:=HR.out (f.length - 1) (by rw [hlen];omega);rw [hlen];rw [<-HH.out]at hcz;have h200:=(Zm hc).2.1
  have hi0:wrap64 ((f.length:Int) - 1)=((f.length - 1:Nat):Int):=by unfold wrap64;omega
  have hi3:((f.length - 1:Nat):Int) < (f.length:Int):=by omega
  have hi1:(f.length:Int) - 1 < (f.length:Int):=by omega
  have hi2:((f.length:Int) - 1).toNat=f.length - 1:=by omega
  clear hx hu hc hlen;go_wp2_with fail;go_ret2;exact⟨rfl,HX.out⟩
 have hne:(c1 !=0)=true:=by simpa using h1
 rw [if_neg h1];clear h1;go_enter Tryz.func21,Tryz.ntmps21;go_wp2_with fail;refine(HS.out _ (HM.out.ext ((Ext.refl w).alloc _)) (HF.out.ext ((Ext.refl w).alloc _))).mono ?_;rintro e w2 ⟨u,rfl,hx,hu⟩;have HX:=Qq (((Ext.refl w).alloc _).trans hx);clear hx hu;go_wp2_with fail;go_ret2;exact⟨rfl,HX.out⟩
def szU(md:Md)(f:List Nd)(k:Nat):List Nat:=(Jy md f k).1++List.replicate (f.length - k) 0
def szF(md:Md)(f:List Nd)(k:Nat):List Bool:=(Jy md f k).2++List.replicate (f.length - k) false
section
variable {md:Md} {f:List Nd} {k:Nat}
theorem Qws(h:k<=f.length):(szU md f k).length=f.length:=by
 unfold szU;rw [List.length_append,List.length_replicate,(Gw md f k).1];omega
theorem Qwn(h:k<=f.length):(szF md f k).length=f.length:=by
 unfold szF;rw [List.length_append,List.length_replicate,(Gw md f k).2];omega
theorem Qvm(i:Nat):(szU md f k).getD i 0=(Jy md f k).1.getD i 0:=by
 unfold szU;rw [Qk,Qk];rcases Nat.lt_or_ge i (Jy md f k).1.length with h|h
 ·rw [List.getElem?_append_left h]
 rw [List.getElem?_append_right h,List.getElem?_replicate,List.getElem?_eq_none h]
 split <;> rfl
theorem Qnx(i:Nat):(szF md f k).getD i false=(Jy md f k).2.getD i false:=by
 unfold szF;rw [Qk,Qk];rcases Nat.lt_or_ge i (Jy md f k).2.length with h|h
 ·rw [List.getElem?_append_left h]
 rw [List.getElem?_append_right h,List.getElem?_replicate,List.getElem?_eq_none h]
 split <;> rfl
theorem Qmv {b:Bool} {x:Int}(h:k < f.length)(h1:b=true->0<=x/\x < k)(h2:b=false->x=0):∃ix:Nat,x=(ix:Int)/\ix < f.length:=by
 cases b
 ·exact⟨0,h2 rfl,by omega⟩
 obtain⟨h3,h4⟩:=h1 rfl;exact⟨x.toNat,by omega,by omega⟩
theorem Qht:szU md f 0=List.replicate f.length 0:=rfl
theorem Qhs:szF md f 0=List.replicate f.length false:=rfl
theorem Qwr:szU md f f.length=(Jy md f f.length).1:=by
 unfold szU;rw [Nat.sub_self];simp
theorem Qnj {α:Type}(l:List α)(n:Nat)(z v:α):(l++List.replicate (n+1) z).set l.length v=l++ [v]++List.replicate n z:=by
 rw [List.set_append_right _ _ (Nat.le_refl _),Nat.sub_self,List.replicate_succ,List.set_cons_zero];simp
theorem Qfw(h:k < f.length):szU md f (k+1)=(szU md f k).set k (atP md f (Jy md f k).1 (Jy md f k).2 k).1:=by
 have h1:=(Gw md f k).1;have h2:=Qnj (Jy md f k).1 (f.length - (k+1)) 0 (atP md f (Jy md f k).1 (Jy md f k).2 k).1;rw [h1,show f.length - (k+1)+1=f.length - k by omega]at h2;exact h2.symm
theorem Qfe(h:k < f.length):szF md f (k+1)=(szF md f k).set k (atP md f (Jy md f k).1 (Jy md f k).2 k).2:=by
 have h1:=(Gw md f k).2;have h2:=Qnj (Jy md f k).2 (f.length - (k+1)) false (atP md f (Jy md f k).1 (Jy md f k).2 k).2;rw [h1,show f.length - (k+1)+1=f.length - k by omega]at h2;exact h2.symm
theorem Qkc {α:Type} {l:List α} {i:Nat} {z:α}(h:l[i]?=some z):l.set i z=l:=by
 refine List.ext_getElem? fun j=> ?_
 rw [List.getElem?_set];by_cases e:i=j
 ·subst e;rw [if_pos rfl,h];simp [(List.getElem?_eq_some_iff.1 h).1]
 rw [if_neg e]
theorem Qwt(h:k < f.length)(ho:okP (f.getD k Nd.zero) (Jy md f k).2=false):szU md f (k+1)=szU md f k/\szF md f (k+1)=szF md f k:=by
 have e:atP md f (Jy md f k).1 (Jy md f k).2 k=(0,false):=by unfold atP;rw [ho];rfl
 refine⟨?_,?_⟩
 ·rw [Qfw h,e];refine Qkc ?_;unfold szU;have h1:=(Gw md f k).1;rw [List.getElem?_append_right (by omega),List.getElem?_replicate,if_pos (by omega)]
 rw [Qfe h,e];refine Qkc ?_;unfold szF;have h1:=(Gw md f k).2;rw [List.getElem?_append_right (by omega),List.getElem?_replicate,if_pos (by omega)]
theorem Zq7(h:k < f.length) {n:Nd}(hn:f.getD k Nd.zero=n)(ho:okP n (Jy md f k).2=true):
 szU md f (k+1)=(szU md f k).set k (Yp md n ((szU md f k).getD n.x.toNat 0) ((szU md f k).getD n.y.toNat 0))/\szF md f (k+1)=(szF md f k).set k (Zw md n):=by
 have e:atP md f (Jy md f k).1 (Jy md f k).2 k=(Yp md n ((Jy md f k).1.getD n.x.toNat 0) ((Jy md f k).1.getD n.y.toNat 0),Zw md n):=by unfold atP;rw [hn,ho];rfl
 rw [Qfw h,Qfe h,e,Qvm,Qvm];exact⟨rfl,rfl⟩
end
def Up(base:Nat)(w:World)(g:Nat)(l:List Nat):Prop:=w.ownsRow base 41 1 (.slice (some ⟨g,0,none⟩) l.length l.length) l.length (uV l)
def Gh(base:Nat)(w:World)(g:Nat)(l:List Bool):Prop:=w.ownsRow base 4 1 (.slice (some ⟨g,0,none⟩) l.length l.length) l.length (l.map Value.bool)
section
variable {base:Nat} {w w':World} {g:Nat} {l:List Nat} {m:List Bool}
theorem Up.cell(h:Up base w g l) {j:Nat}(hj:j < l.length):w.cell? ⟨g,j,none⟩=some (.int .u64 ((l.getD j 0:Nat):Int)):=by
 rw [World.ownsRow.cellAt h j (by omega)];unfold uV;rw [List.getElem?_map,Qk,Qv hj];rfl
theorem Gh.cell(h:Gh base w g m) {j:Nat}(hj:j < m.length):w.cell? ⟨g,j,none⟩=some (.bool (m.getD j false)):=by
 rw [World.ownsRow.cellAt h j (by omega),List.getElem?_map,Qk,Qv hj];rfl
theorem Up.frozen(h:Up base w g l)(j:Nat):w.frozen? ⟨g,j,none⟩=false:=World.ownsRow.frozenAt h j
theorem Gh.frozen(h:Gh base w g m)(j:Nat):w.frozen? ⟨g,j,none⟩=false:=World.ownsRow.frozenAt h j
theorem Up.lt(h:Up base w g l):base<=g/\g < w.heap.size:=World.ownsRow.lt h g rfl
theorem Gh.lt(h:Gh base w g m):base<=g/\g < w.heap.size:=World.ownsRow.lt h g rfl
theorem Up.set(h:Up base w g l)(j s:Nat):Up base (w.setCell ⟨g,j,none⟩ (.int .u64 (s:Int))) g (l.set j s)/\w.grownBy (w.setCell ⟨g,j,none⟩ (.int .u64 (s:Int))) (some g):=by
 obtain⟨h1,h2⟩:=World.ownsRow.stored h j (.int .u64 (s:Int));refine⟨?_,h2⟩;unfold Up uV;unfold uV at h1;rw [List.length_set,List.map_set];exact h1
theorem Gh.set(h:Gh base w g m)(j:Nat)(b:Bool):Gh base (w.setCell ⟨g,j,none⟩ (.bool b)) g (m.set j b)/\w.grownBy (w.setCell ⟨g,j,none⟩ (.bool b)) (some g):=by
 obtain⟨h1,h2⟩:=World.ownsRow.stored h j (.bool b);refine⟨?_,h2⟩;unfold Gh;rw [List.length_set,<-List.map_set]at *;exact h1
theorem Up.ext(h:Up base w g l)(he:Ext w w'):Up base w' g l:=Zf h he
theorem Gh.ext(h:Gh base w g m)(he:Ext w w'):Gh base w' g m:=Zf h he
theorem Up.kept {r:Nat}(h:Up base w g l)(hg:w.grownBy w' (some r))(hr:r≠g):Up base w' g l:=World.ownsRow.kept h hg (.inr fun e=>hr (by injection e with e;exact e.symm))
theorem Gh.kept {r:Nat}(h:Gh base w g m)(hg:w.grownBy w' (some r))(hr:r≠g):Gh base w' g m:=World.ownsRow.kept h hg (.inr fun e=>hr (by injection e with e;exact e.symm))
theorem Up.u64s(h:Up base w g l):Ji w (.slice (some ⟨g,0,none⟩) l.length l.length) l:=Jz.u64s h
end
theorem Qwm:(Tryz.prog.info? 4).map (fun i=>(i.zero,i.size,i.bytes))=some (some (.bool false),1,1):=by kernel_rfl
theorem Qr5(n:Nat):(madeCells (Value.cells (.int .u64 0)) (n*1)).toList=uV (List.replicate n 0):=by
 unfold uV;simp only [madeCells,Value.cells,Nat.mul_one,Array.toList_map,Array.toList_range,List.map_replicate];refine List.ext_getElem (by simp) fun i h1 h2=> ?_
 simp [Nat.mod_one]
theorem Qbl(n:Nat):(madeCells (Value.cells (.bool false)) (n*1)).toList=(List.replicate n false).map Value.bool:=by
 simp only [madeCells,Value.cells,Nat.mul_one,Array.toList_map,Array.toList_range,List.map_replicate];refine List.ext_getElem (by simp) fun i h1 h2=> ?_
 simp [Nat.mod_one]
theorem Qbm(n:Nat):(madeCells #[.int .u64 0] n).toList=uV (List.replicate n 0):=by
 have:=Qr5 n;rw [Nat.mul_one]at this;exact this
theorem Qg7(n:Nat):(madeCells #[.bool false] n).toList=(List.replicate n false).map Value.bool:=by
 have:=Qbl n;rw [Nat.mul_one]at this;exact this
end Go.Proofs.YtkmclcmnoicagaaGreatDoor
