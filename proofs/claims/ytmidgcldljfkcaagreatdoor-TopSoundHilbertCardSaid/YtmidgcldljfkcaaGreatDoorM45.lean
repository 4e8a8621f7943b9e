/- The program's Fits and request. -/
import Derived.Test.YtmidgcldljfkcaaGreatDoorM01
import Derived.Test.YtmidgcldljfkcaaGreatDoorM21
import Derived.Test.YtmidgcldljfkcaaGreatDoorM44
import Derived.Test.YtmidgcldljfkcaaGreatDoorM22
namespace Go.Proofs.YtmidgcldljfkcaaGreatDoor
set_option maxRecDepth 100000
set_option maxHeartbeats 128000000
open Go.RowKit
theorem Qy5(m n:Nat):((m:Int) / 2^n==0)=decide (m < 2^n):=by
 have e:((m:Int) / 2^n)=((m / 2^n:Nat):Int):=by simp
 rw [e,Bool.eq_iff_iff,beq_iff_eq,decide_eq_true_eq];have:=Nat.div_eq_zero_iff (a:=m) (b:=2^n);have hp:=Nat.two_pow_pos n;omega
theorem Qsd {m k a:Nat}(hm:m < 2^k):(List.range k).all (Hg a m)=decide (m < 2^a):=by
 rw [Bool.eq_iff_iff,List.all_eq_true,decide_eq_true_eq];refine⟨fun h=>Iw fun i hi=> ?_,fun h i hi=> ?_⟩
 ·have h2:=h i (List.mem_range.2 (Bd hm hi));unfold Hg at h2;rw [hi]at h2
  simpa using h2
 unfold Hg;cases hb:m.testBit i
 ·rfl
 rw [decide_eq_true (Bd h hb)];rfl
theorem Qjq(m n:Nat)(w:World)(_hm:m < 512)(hn:n<=8):Calls Tryz.prog 107 #[.int .i64 (m:Int),.int .i64 (n:Int)] w fun e w'=>e=.returned (.bool (decide (m < 2^n)))/\w=w':=by
 have hn31:¬(31:Int)<=(n:Int):=by omega
 have hmax:max (n:Int) 0=(n:Int):=by omega
 have hmin:min n 64=n:=by omega
 have HD:=Qq (Qy5 m n);go_enter Tryz.func107,Tryz.ntmps107;go_wp2_with fail;go_ret;exact⟨by rw [<-HD.out] <;> rfl,rfl⟩
theorem Qj4(v:Value)(f:List Nd)(a b:Nat)(w:World)(h:Fml w v f)(ha:a<=4)(hb:b<=8):
 Calls Tryz.prog 90 #[v,.int .i64 (a:Int),.int .i64 (b:Int)] w fun e w'=>e=.returned (.bool (Uf f a b))/\Ext w w':=by
 have H:=Qq h;clear h;by_cases hc:Qs f=0
 ·have HC:=Qq hc;have hh:=(Vz hc).2.2.2;have hma:Dr (Qf f) < 2^4:=Qyx _ 0 hh (by decide);have hmf:Rn (Qf f) < 2^8:=Qvw _ 0 hh (by decide);have HF:=Qq (show Uf f a b=(decide (Dr (Qf f) < 2^a)&&decide (Rn (Qf f) < 2^b)) by
   unfold Uf;rw [Qsd hma,Qsd hmf,HC.out]
   rfl)
  have HA:=Qq (fun(w:World) (h:Fml w v f)=>Qgk v f w h hc);have HB:=Qq (fun(w:World) (h:Fml w v f)=>Qdn v f w h hc);obtain⟨ma,hmae⟩:∃m,m=Dr (Qf f):=⟨_,rfl⟩;obtain⟨mf,hmfe⟩:∃m,m=Rn (Qf f):=⟨_,rfl⟩;rw [<-hmae]at hma HF HA;rw [<-hmfe]at hmf HF HB;have hma5:ma < 512:=by omega
  have hmf5:mf < 512:=by omega
  clear hmae hmfe hma hmf hh hc;cases hd:decide (ma < 2^a)
  ·have HD:=Qq hd;have HE:=Qq (show Uf f a b=false by rw [HF.out,HD.out];rfl);clear hd;go_enter Tryz.func90,Tryz.ntmps90;go_wp2_with(first|(go_at_call 38;refine(Je _ f _ H.out.1).mono ?_;rintro e w1 ⟨rfl,hx1⟩;rw [HC.out];have HX1:=Qq hx1;clear hx1)|(go_at_call 108;refine(HA.out _ (H.out.ext HX1.out)).mono ?_;rintro e w2 ⟨rfl,hx2⟩;have HX2:=Qq (HX1.out.trans hx2);clear hx2)|(go_at_call 107;refine(Qjq ma a _ hma5 (by omega)).mono ?_;rintro e w3 ⟨rfl,rfl⟩;rw [HD.out]));go_ret;exact⟨by rw [HE.out] <;> rfl,HX2.out⟩
  have HD:=Qq hd;have HE:=Qq (show Uf f a b=decide (mf < 2^b) by rw [HF.out,HD.out];rfl);clear hd;go_enter Tryz.func90,Tryz.ntmps90;go_wp2_with(first|(go_at_call 38;refine(Je _ f _ H.out.1).mono ?_;rintro e w1 ⟨rfl,hx1⟩;rw [HC.out];have HX1:=Qq hx1;clear hx1)|(go_at_call 108;refine(HA.out _ (H.out.ext HX1.out)).mono ?_;rintro e w2 ⟨rfl,hx2⟩;have HX2:=Qq (HX1.out.trans hx2);clear hx2)|(go_at_call 109;refine(HB.out _ (H.out.ext HX2.out)).mono ?_;rintro e w4 ⟨rfl,hx4⟩;have HX4:=Qq (HX2.out.trans hx4);clear hx4)|(go_at_call 107;refine(Qjq _ _ _ (by first|with_reducible exact hma5|with_reducible exact hmf5) (by omega)).mono ?_;rintro e w3 ⟨rfl,rfl⟩;try rw [HD.out]))
  go_ret;exact⟨by rw [HE.out] <;> rfl,HX4.out⟩
 have HE:=Qq (show Uf f a b=false by
  unfold Uf;rw [show(Qs f==0)=false by simpa using hc]
  rfl)
 obtain⟨z,hz⟩:∃z,z=Qs f:=⟨_,rfl⟩;have HZ:=Qq hz;rw [<-hz]at hc;have hne:(z==0)=false:=by simpa using hc
 clear hc hz;go_enter Tryz.func90,Tryz.ntmps90;go_wp2_with(go_at_call 38;refine(Je _ f _ H.out.1).mono ?_;rintro e w1 ⟨rfl,hx1⟩;rw [<-HZ.out];have HX1:=Qq hx1;clear hx1);go_ret;exact⟨by rw [HE.out] <;> rfl,HX1.out⟩
theorem Qv4(vm v:Value)(md:Md)(f:List Nd)(w:World)(hm:MdV w vm md)(hok:md.ok)(h:Fml w v f):
 Calls Tryz.prog 57 #[vm,v] w fun e w'=>e=.returned (.int .i64 (Yh md f))/\Ext w w':=by
 have HM:=Qq hm;have HOK:=Qq hok;have HF:=Qq h;obtain⟨vv,vr,rfl,hv,hr⟩:=hm;obtain⟨Av,cv,rfl,_⟩:=hv;obtain⟨Ar,cr,rfl,_⟩:=hr;obtain⟨c1,hc1⟩:∃z,z=Zd md:=⟨_,rfl⟩;have HC1:=Qq hc1;obtain⟨c2,hc2⟩:∃z,z=Qs f:=⟨_,rfl⟩;have HC2:=Qq hc2;clear h hok;by_cases h1:c1=0
 ·have hz:=Vk (show Zd md=0 by rw [<-HC1.out];exact h1);have hr4:=hz.2.2.1;have hv8:=hz.2.2.2.1;subst h1;clear hz hc1;by_cases h2:c2=0
  ·subst h2;obtain⟨hs1,hs2⟩:=Qxi f;clear hs1 hc2;cases hsb:Yd (Jh f) 15
   ·rw [hsb]at hs2;have HE:=Qq (show Yh md f=10 by unfold Yh;rw [if_neg (by rw [<-HC1.out];simp),if_neg (by rw [<-HC2.out];simp),if_pos hsb]);clear hsb;go_enter Tryz.func57,Tryz.ntmps57;go_wp2_with(first|(go_at_call 24;refine(Gj _ md _ (HM.out.ext (by repeat(first|exact Qz|assumption|apply Ext.alloc|apply Ext.drew))) HOK.out).mono ?_;rintro e w1 ⟨rfl,hx1⟩;rw [<-HC1.out];have HX1:=Qq (((Ext.refl w).alloc _).trans hx1);have hc1:w1.cell? ⟨w.heap.size,1,none⟩=some (.slice Av md.val.length cv):=(hx1.cell (p:=⟨w.heap.size,1,none⟩) (by simp)).trans (by simp);have hc2:w1.cell? ⟨w.heap.size,2,none⟩=some (.slice Ar md.rel.length cr):=(hx1.cell (p:=⟨w.heap.size,2,none⟩) (by simp)).trans (by simp);have hb1:w.heap.size < w1.heap.size:=Qy (by simp) hx1.size;clear hx1)|(go_at_call 38;refine(Je _ f _ (HF.out.ext HX1.out).1).mono ?_;rintro e w2 ⟨rfl,hx2⟩;rw [<-HC2.out];have HX2:=Qq (HX1.out.trans hx2);have hd1:=(hx2.cell (p:=⟨w.heap.size,1,none⟩) hb1).trans hc1;have hd2:=(hx2.cell (p:=⟨w.heap.size,2,none⟩) hb1).trans hc2;have hb2:=Qy hb1 hx2.size;clear hx2)|(go_at_call 40;refine(Tf _ f _ (HF.out.ext HX2.out)).mono ?_;rintro e w3 ⟨rfl,hx3⟩;have HX3:=Qq (HX2.out.trans hx3);have he1:=(hx3.cell (p:=⟨w.heap.size,1,none⟩) hb2).trans hd1;have he2:=(hx3.cell (p:=⟨w.heap.size,2,none⟩) hb2).trans hd2;clear hx3))
    go_ret;exact⟨by rw [HE.out] <;> rfl,HX3.out⟩
   rw [hsb]at hs2;cases hfi:Uf f md.rel.length md.val.length
   ·have HE:=Qq (show Yh md f=2 by unfold Yh;rw [if_neg (by rw [<-HC1.out];simp),if_neg (by rw [<-HC2.out];simp),if_neg (by rw [hsb];simp),if_pos hfi]);have HFI:=Qq hfi;clear hsb hfi;go_enter Tryz.func57,Tryz.ntmps57;go_wp2_with(first|(go_at_call 24;refine(Gj _ md _ (HM.out.ext (by repeat(first|exact Qz|assumption|apply Ext.alloc|apply Ext.drew))) HOK.out).mono ?_;rintro e w1 ⟨rfl,hx1⟩;rw [<-HC1.out];have HX1:=Qq (((Ext.refl w).alloc _).trans hx1);have hc1:w1.cell? ⟨w.heap.size,1,none⟩=some (.slice Av md.val.length cv):=(hx1.cell (p:=⟨w.heap.size,1,none⟩) (by simp)).trans (by simp);have hc2:w1.cell? ⟨w.heap.size,2,none⟩=some (.slice Ar md.rel.length cr):=(hx1.cell (p:=⟨w.heap.size,2,none⟩) (by simp)).trans (by simp);have hb1:w.heap.size < w1.heap.size:=Qy (by simp) hx1.size;clear hx1)|(go_at_call 38;refine(Je _ f _ (HF.out.ext HX1.out).1).mono ?_;rintro e w2 ⟨rfl,hx2⟩;rw [<-HC2.out];have HX2:=Qq (HX1.out.trans hx2);have hd1:=(hx2.cell (p:=⟨w.heap.size,1,none⟩) hb1).trans hc1;have hd2:=(hx2.cell (p:=⟨w.heap.size,2,none⟩) hb1).trans hc2;have hb2:=Qy hb1 hx2.size;clear hx2)|(go_at_call 40;refine(Tf _ f _ (HF.out.ext HX2.out)).mono ?_;rintro e w3 ⟨rfl,hx3⟩;have HX3:=Qq (HX2.out.trans hx3);have he1:=(hx3.cell (p:=⟨w.heap.size,1,none⟩) hb2).trans hd1;have he2:=(hx3.cell (p:=⟨w.heap.size,2,none⟩) hb2).trans hd2;clear hx3)|(go_at_call 90;refine(Qj4 _ f md.rel.length md.val.length _ (HF.out.ext HX3.out) hr4 hv8).mono ?_;rintro e w4 ⟨rfl,hx4⟩;rw [HFI.out];have HX4:=Qq (HX3.out.trans hx4);clear hx4))
    go_ret;exact⟨by rw [HE.out] <;> rfl,HX4.out⟩
   have HE:=Qq (show Yh md f=0 by unfold Yh;rw [if_neg (by rw [<-HC1.out];simp),if_neg (by rw [<-HC2.out];simp),if_neg (by rw [hsb];simp),if_neg (by rw [hfi];simp)]);have HFI:=Qq hfi;clear hsb hfi;go_enter Tryz.func57,Tryz.ntmps57;go_wp2_with(first|(go_at_call 24;refine(Gj _ md _ (HM.out.ext (by repeat(first|exact Qz|assumption|apply Ext.alloc|apply Ext.drew))) HOK.out).mono ?_;rintro e w1 ⟨rfl,hx1⟩;rw [<-HC1.out];have HX1:=Qq (((Ext.refl w).alloc _).trans hx1);have hc1:w1.cell? ⟨w.heap.size,1,none⟩=some (.slice Av md.val.length cv):=(hx1.cell (p:=⟨w.heap.size,1,none⟩) (by simp)).trans (by simp);have hc2:w1.cell? ⟨w.heap.size,2,none⟩=some (.slice Ar md.rel.length cr):=(hx1.cell (p:=⟨w.heap.size,2,none⟩) (by simp)).trans (by simp);have hb1:w.heap.size < w1.heap.size:=Qy (by simp) hx1.size;clear hx1)|(go_at_call 38;refine(Je _ f _ (HF.out.ext HX1.out).1).mono ?_;rintro e w2 ⟨rfl,hx2⟩;rw [<-HC2.out];have HX2:=Qq (HX1.out.trans hx2);have hd1:=(hx2.cell (p:=⟨w.heap.size,1,none⟩) hb1).trans hc1;have hd2:=(hx2.cell (p:=⟨w.heap.size,2,none⟩) hb1).trans hc2;have hb2:=Qy hb1 hx2.size;clear hx2)|(go_at_call 40;refine(Tf _ f _ (HF.out.ext HX2.out)).mono ?_;rintro e w3 ⟨rfl,hx3⟩;have HX3:=Qq (HX2.out.trans hx3);have he1:=(hx3.cell (p:=⟨w.heap.size,1,none⟩) hb2).trans hd1;have he2:=(hx3.cell (p:=⟨w.heap.size,2,none⟩) hb2).trans hd2;clear hx3)|(go_at_call 90;refine(Qj4 _ f md.rel.length md.val.length _ (HF.out.ext HX3.out) hr4 hv8).mono ?_;rintro e w4 ⟨rfl,hx4⟩;rw [HFI.out];have HX4:=Qq (HX3.out.trans hx4);clear hx4))
   go_ret;exact⟨by rw [HE.out] <;> rfl,HX4.out⟩
  have hne:(c2 !=0)=true:=by simpa using h2
  have HE:=Qq (show Yh md f=c2 by unfold Yh;rw [if_neg (by rw [<-HC1.out];simp),if_pos (by rw [<-HC2.out];exact h2),HC2.out]);clear h2 hc2;go_enter Tryz.func57,Tryz.ntmps57;go_wp2_with(first|(go_at_call 24;refine(Gj _ md _ (HM.out.ext (by repeat(first|exact Qz|assumption|apply Ext.alloc|apply Ext.drew))) HOK.out).mono ?_;rintro e w1 ⟨rfl,hx1⟩;rw [<-HC1.out];have HX1:=Qq (((Ext.refl w).alloc _).trans hx1);have hc1:w1.cell? ⟨w.heap.size,1,none⟩=some (.slice Av md.val.length cv):=(hx1.cell (p:=⟨w.heap.size,1,none⟩) (by simp)).trans (by simp);have hc2:w1.cell? ⟨w.heap.size,2,none⟩=some (.slice Ar md.rel.length cr):=(hx1.cell (p:=⟨w.heap.size,2,none⟩) (by simp)).trans (by simp);have hb1:w.heap.size < w1.heap.size:=Qy (by simp) hx1.size;clear hx1)|(go_at_call 38;refine(Je _ f _ (HF.out.ext HX1.out).1).mono ?_;rintro e w2 ⟨rfl,hx2⟩;rw [<-HC2.out];have HX2:=Qq (HX1.out.trans hx2);have hd1:=(hx2.cell (p:=⟨w.heap.size,1,none⟩) hb1).trans hc1;have hd2:=(hx2.cell (p:=⟨w.heap.size,2,none⟩) hb1).trans hc2;have hb2:=Qy hb1 hx2.size;clear hx2))
  go_ret;exact⟨by rw [HE.out] <;> rfl,HX2.out⟩
 have hne:(c1 !=0)=true:=by simpa using h1
 have HE:=Qq (show Yh md f=c1 by unfold Yh;rw [if_pos (by rw [<-HC1.out];exact h1),HC1.out]);clear h1 hc1 hc2;go_enter Tryz.func57,Tryz.ntmps57;go_wp2_with(go_at_call 24;refine(Gj _ md _ (HM.out.ext (by repeat(first|exact Qz|assumption|apply Ext.alloc|apply Ext.drew))) HOK.out).mono ?_;rintro e w1 ⟨rfl,hx1⟩;rw [<-HC1.out];have HX1:=Qq (((Ext.refl w).alloc _).trans hx1);have hc1:w1.cell? ⟨w.heap.size,1,none⟩=some (.slice Av md.val.length cv):=(hx1.cell (p:=⟨w.heap.size,1,none⟩) (by simp)).trans (by simp);have hc2:w1.cell? ⟨w.heap.size,2,none⟩=some (.slice Ar md.rel.length cr):=(hx1.cell (p:=⟨w.heap.size,2,none⟩) (by simp)).trans (by simp);have hb1:w.heap.size < w1.heap.size:=Qy (by simp) hx1.size;clear hx1)
 go_ret;exact⟨by rw [HE.out] <;> rfl,HX1.out⟩
theorem Wb {a b n:Nat}(h:a < 2^n):Yq a b < 2^n:=Iw fun i hi=>by
 rw [Ur,Bool.and_eq_true]at hi;exact Bd h hi.1
theorem Mq(n:Nat):Zo n < 2^n:=by
 unfold Zo;have:=Nat.two_pow_pos n;omega
theorem Qs4 {op:Int} {x y n:Nat}(hx:x < 2^n)(hy:y < 2^n):Rk op x y (Zo n) < 2^n:=by
 have h:=Nat.two_pow_pos n;unfold Rk
 repeat' split
 ·exact Mq n
 ·exact Wb (Mq n)
 ·exact Nat.lt_of_le_of_lt Nat.and_le_left hx
 ·exact Nat.or_lt_two_pow hx hy
 ·exact Nat.or_lt_two_pow (Wb (Mq n)) hy
 ·exact Wb (Mq n)
 exact h
theorem Qpb {md:Md}(hck:Zd md=0) {n:Nd} {x y:Nat}(hx:x < 2^md.n.toNat)(hy:y < 2^md.n.toNat):Qqf md n x y < 2^md.n.toNat:=by
 unfold Qqf
 split
 ·have hb:=(Vk hck).2.2.2.2.2.1;unfold Jd at hb;rw [List.any_eq_false]at hb;rw [Qk];cases e:md.val[n.i.toNat]? with
  |none=>exact Nat.two_pow_pos _
  |some s =>
   have:=hb s (List.mem_of_getElem? e)
   simpa using this
 split
 ·exact Qs4 hx hy
 split
 ·exact Lp _ _
 split
 ·exact Wb (Mq _)
 split
 ·exact Lp _ _
 split
 ·exact Lp _ _
 exact Lp _ _
theorem Hq {l:List Nat} {b:Nat}(h:∀s∈l,s < b)(hb:0 < b)(i:Nat):l.getD i 0 < b:=by
 rw [Qk];cases e:l[i]? with
 |none=>exact hb
 |some s=>exact h s (List.mem_of_getElem? e)
theorem Qtg {md:Md}(hck:Zd md=0) {n:Nd} {x y:Nat}(hx:x < 2^md.n.toNat)(hy:y < 2^md.n.toNat):Yz md n x y < 2^md.n.toNat:=by
 unfold Yz
 split
 ·exact Qpb hck hx hy
 exact Nat.two_pow_pos _
theorem Hi {md:Md}(hck:Zd md=0)(f:List Nd):∀k,∀s∈(Ze md f k).1,s < 2^md.n.toNat
 |0,s,h=>by cases h
 |k+1,s,h=>by
  have ih:=Hi hck f k;have h2:s∈(Ze md f k).1++ [(atP md f (Ze md f k).1 (Ze md f k).2 k).1]:=h;rcases List.mem_append.1 h2 with h2|h2
  ·exact ih s h2
  rw [List.mem_singleton.1 h2];unfold atP
  split
  ·exact Qtg hck (Hq ih (Nat.two_pow_pos _) _) (Hq ih (Nat.two_pow_pos _) _)
  exact Nat.two_pow_pos _
theorem Qsa {md:Md}(hck:Zd md=0)(f:List Nd):Df md f < 2^md.n.toNat:=Hq (Hi hck f _) (Nat.two_pow_pos _) _
theorem Qh3 {n s:Nat}(hs:s < 2^n)(h:∀i,i < n->s.testBit i=true):s=Zo n:=Nat.eq_of_testBit_eq fun i=>by
 rw [Xm];by_cases hi:i < n
 ·rw [h i hi,decide_eq_true hi]
 rw [decide_eq_false hi];cases hb:s.testBit i
 ·rfl
 exact absurd (Bd hs hb) hi
def Ip:Prop:=∀(vm v:Value) (md:Md) (f:List Nd) (w:World),MdV w vm md->md.ok->Fml w v f->
 Calls Tryz.prog 32 #[vm,v] w fun e w'=>∃u,e=.returned (.tuple #[u,.int .i64 (Yh md f)])/\Ext w w'/\Hid (Yh md f=0->Yi w' u (Ze md f f.length).1)
theorem Qr2(HSS:Ip)(vm v:Value)(md:Md)(f:List Nd)(w:World)(hm:MdV w vm md)(hok:md.ok)(h:Fml w v f):
 Calls Tryz.prog 13 #[vm,v] w fun e w'=>e=.returned (.tuple #[.int .u64 ((if Yh md f=0 then Df md f else 0:Nat):Int),.int .i64 (Yh md f)])/\Ext w w':=by
 have HM:=Qq hm;have HF:=Qq h;have HS:=Qq (fun w hm h=>HSS vm v md f w hm hok h);obtain⟨vv,vr,rfl,hv,hr⟩:=hm;obtain⟨c1,hc1⟩:∃z,z=Yh md f:=⟨_,rfl⟩;have HC1:=Qq hc1;rw [<-hc1]at HS⊢;clear h hok HSS hv hr hc1;by_cases h1:c1=0
 ·subst h1;obtain⟨_,hc,_,_⟩:=Dn HC1.out.symm;have hp:=(Zk hc).1;have hlen:=(Gw md f f.length).1;have HH:=Qq (show Df md f=(Ze md f f.length).1.getD (f.length - 1) 0 from rfl);go_enter Tryz.func13,Tryz.ntmps13;go_wp2_with fail;refine(HS.out _ (HM.out.ext ((Ext.refl w).alloc _)) (HF.out.ext ((Ext.refl w).alloc _))).mono ?_;rintro e w2 ⟨u,rfl,hx,hu⟩;obtain⟨A,c,rfl,_,_,HR⟩:=Fl (hu.out (by trivial));have HX:=Qq (((Ext.refl w).alloc _).trans hx);obtain⟨ad,rfl,hadl,hcz⟩:=HR.out (f.length - 1) (by rw [hlen];omega);rw [hlen];rw [<-HH.out]at hcz;have h200:=(Zk hc).2.1
  have hi0:wrap64 ((f.length:Int) - 1)=((f.length - 1:Nat):Int):=by unfold wrap64;omega
  have hi3:((f.length - 1:Nat):Int) < (f.length:Int):=by omega
  have hi1:(f.length:Int) - 1 < (f.length:Int):=by omega
  have hi2:((f.length:Int) - 1).toNat=f.length - 1:=by omega
  clear hx hu hc hlen;go_wp2_with fail;go_ret2;exact⟨rfl,HX.out⟩
 have hne:(c1 !=0)=true:=by simpa using h1
 rw [if_neg h1];clear h1;go_enter Tryz.func13,Tryz.ntmps13;go_wp2_with fail;refine(HS.out _ (HM.out.ext ((Ext.refl w).alloc _)) (HF.out.ext ((Ext.refl w).alloc _))).mono ?_;rintro e w2 ⟨u,rfl,hx,hu⟩;have HX:=Qq (((Ext.refl w).alloc _).trans hx);clear hx hu;go_wp2_with fail;go_ret2;exact⟨rfl,HX.out⟩
end Go.Proofs.YtmidgcldljfkcaaGreatDoor
