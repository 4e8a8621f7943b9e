/- slices.Index and Contains at words. -/
import Derived.Test.YtkmclcmnoicagaaGreatDoorM01
import Derived.Test.YtkmclcmnoicagaaGreatDoorM14
import Derived.Test.YtkmclcmnoicagaaGreatDoorM09
import Derived.Test.YtkmclcmnoicagaaGreatDoorM15
import Derived.Test.YtkmclcmnoicagaaGreatDoorM13
import Derived.Test.YtkmclcmnoicagaaGreatDoorM10
import Derived.OrdersIn
import Derived.OrdersHeld
import Derived.TacticsInMore
namespace Go.Proofs.YtkmclcmnoicagaaGreatDoor
set_option maxRecDepth 100000
set_option maxHeartbeats 128000000
open Go.RowKit
theorem Qs0(x:Nat)(v:Value)(l:List Nat)(w:World)(h:Jv w v l):
 Calls Tryz.prog 218 #[v,.int .u64 (x:Int)] w fun e w'=>e=.returned (.int .i64 (Bh (fun s=>decide (x=s)) l))/\Ext w w':=by
 obtain⟨A,c,rfl,hcap,hmax,HR⟩:=Gy h;unfold maxLen at hmax;clear h;go_enter Tryz.func218,Tryz.ntmps218;go_wp2_with fail;go_loopw [5,8] (fun _ i wr=>∃k:Nat,k<=l.length/\i=.int .i64 (k:Int)/\Hid (∀t∈l.take k,decide (x=t)=false)/\Hid (Ext w wr)) (fun _ i _=>l.length - (intOf i).toNat)
 case atStart=>exact⟨0,Nat.zero_le _,rfl,Qq (by simp),Qq Qz⟩
 case round =>
  obtain⟨k,hk,rfl,HNI,HX⟩:=hrel;by_cases hlt2:k < l.length
  ·obtain⟨s,hs⟩:∃s,l[k]?=some s:=⟨_,Qv hlt2⟩;obtain⟨ad,rfl,hb1,hc1⟩:=HR.out k hlt2;rw [Qk,hs,Option.getD_some]at hc1;have a0:wr.cell? (ad.add k)=some (.int .u64 (s:Int)):=(HX.out.cell (p:=ad.add k) (Qj hb1)).trans hc1;clear hc1;have HA:=Qq hs;have hk1:(k:Int) < (l.length:Int):=by omega
   clear hs;by_cases hps:x=s
   ·have heq:((x:Int)==(s:Int))=true:=by simp [hps]
    have HE:=Qq (Cs (p:=fun s=>decide (x=s)) HA.out (decide_eq_true hps) HNI.out);clear hps;go_wp2_with fail;go_ret;exact⟨by rw [HE.out] <;> rfl,HX.out⟩
   have heq:((x:Int)==(s:Int))=false:=by simp only [beq_eq_false_iff_ne,ne_eq,Int.natCast_inj];exact hps
   have HT:Hid (∀t∈l.take (k+1),decide (x=t)=false):=Qq (by
    rw [Mh HA.out];intro t ht;rcases List.mem_append.1 ht with ht|ht
    ·exact HNI.out t ht
    rw [List.mem_singleton.1 ht];exact decide_eq_false hps)
   clear hps;go_wp2_with fail;go_roundw
   case rel=>exact⟨k+1,by omega,by go_num,HT,HX⟩
   case measure=>simp [intOf];omega
  obtain rfl:l.length=k:=by omega
  have HE:=Qq (Sn (p:=fun s=>decide (x=s)) (l:=l) (fun t ht=>HNI.out t (by rw [List.take_of_length_le (Nat.le_refl _)];exact ht)));go_wp2_with fail;go_ret;exact⟨by rw [HE.out] <;> rfl,HX.out⟩
theorem Qgx(x:Nat)(v:Value)(l:List Nat)(w:World)(h:Jv w v l):
 Calls Tryz.prog 199 #[v,.int .u64 (x:Int)] w fun e w'=>e=.returned (.bool (l.any fun s=>decide (x=s)))/\Ext w w':=by
 have HI:=Qq (Qs0 x v l w h);have HE:=Qq (Cn (fun s=>decide (x=s)) l);clear h;obtain⟨z,hz⟩:∃z,z=Bh (fun s=>decide (x=s)) l:=⟨_,rfl⟩;rw [<-hz]at HI HE;clear hz;go_enter Tryz.func199,Tryz.ntmps199;go_wp2_with(refine HI.out.mono ?_;rintro e w1 ⟨rfl,hx⟩);go_ret;exact⟨by rw [<-HE.out] <;> rfl,hx⟩
def Bm(r:List Nat)(s:Nat):Nat:=if Vz r.length r=0 then Kr r r.length s else 0
theorem Bx {r:List Nat}(h:Vz r.length r=0):r.length<=64:=by
 unfold Vz at h;split at h
 ·cases h
 omega
theorem Tt(v:Value)(r:List Nat)(s:Nat)(w:World)(h:Jv w v r)(hw:∀s∈r,Qw s)(hs:Qw s):
 Calls Tryz.prog 186 #[v,.int .u64 (s:Int)] w fun e w'=>e=.returned (.int .u64 ((Bm r s:Nat):Int))/\Ext w w':=by
 have H:=Qq h;obtain⟨A,c,rfl,_,_,HL⟩:=Gy h;have HWD:=Qq hw;have HS:=Qq hs;clear h hw hs;by_cases hck:Vz r.length r=0
 ·have hn:=Bx hck;have HC:=Qq hck;have HB:=Qq (show Bm r s=Kr r r.length s by unfold Bm;rw [if_pos HC.out]);clear hck;obtain⟨n,hne⟩:∃n,n=r.length:=⟨_,rfl⟩;have HN:=Qq hne;go_enter Tryz.func186,Tryz.ntmps186;clear hne;go_upto_region 1 with(fail);go_wp2_with(go_at_call 113;refine(Xm _ r _ H.out HWD.out).mono ?_;rintro e w1 ⟨rfl,hx1⟩;rw [HC.out];have HX1:=Qq hx1;clear hx1);rw [<-HN.out];go_loopw [5,14] (fun vo vi wr=>∃k:Nat,vi=.int .i64 (k:Int)/\k<=n/\vo=.int .u64 ((Kk k (fun i=>Ym (r.getD i 0) s):Nat):Int)/\Hid (Ext w wr)) (fun _ v _=>n - (intOf v).toNat)
  case atStart=>exact⟨0,rfl,Nat.zero_le _,rfl,Qq HX1.out⟩
  case round =>
   obtain⟨k,rfl,hk,rfl,HX⟩:=hrel;obtain⟨m,hm⟩:∃m,m=Kk k (fun i=>Ym (r.getD i 0) s):=⟨_,rfl⟩;have HM:=Qq hm;rw [<-hm];clear hm;by_cases hlt2:k < n
   ·have hk1:(k:Int) < (n:Int):=by omega
    have hk2:(k:Int) < (r.length:Int):=by rw [<-HN.out];exact hk1
    have hk64:k < 64:=by omega
    have hmin:min k 64=k:=by omega
    obtain⟨ad,rfl,hadl,hc⟩:=HL.out k (by rw [<-HN.out];exact hlt2);have a0:=(HX.out.cell (p:=ad.add k) (Qj hadl)).trans hc;have al:(ad.add k).block < wr.heap.size:=by rw [Qc];exact Qy hadl HX.out.size
    have hz:=Qdv (Rg HWD.out k) HS.out;have HSU:=Qq (Rc k (fun i=>Ym (r.getD i 0) s));have HOR:=Qq (Qvn (s:=m) (k:=k) (by rw [HM.out];exact Lm (by omega) _) hk64);obtain⟨x,hx⟩:∃x,x=r.getD k 0:=⟨_,rfl⟩;rw [<-hx]at a0 hz;have HXE:=Qq hx;clear hc hx;cases hd:Ym x s
    ·rw [hd]at hz;have HP:=Qq (show Kk (k+1) (fun i=>Ym (r.getD i 0) s)=m by rw [HSU.out,<-HXE.out,hd,HM.out];rfl);clear hd;go_wp2_with fail;go_roundw
     case rel=>exact⟨k+1,by go_num,by omega,by rw [HP.out],HX⟩
     case measure=>simp [intOf];omega
    rw [hd]at hz;have HP:=Qq (show Kk (k+1) (fun i=>Ym (r.getD i 0) s)=m|||2^k by rw [HSU.out,<-HXE.out,hd,HM.out];rfl);have hor:=HOR.out;clear hd;obtain⟨m2,hm2⟩:∃m2,m2=m|||2^k:=⟨_,rfl⟩;rw [<-hm2]at HP hor;clear hm2;go_wp2_with fail;go_roundw
    case rel=>exact⟨k+1,by go_num,by omega,by rw [HP.out],HX⟩
    case measure=>simp [intOf];omega
   obtain rfl:n=k:=by omega
   go_wp2_with fail;go_ret;exact⟨by rw [HB.out,<-HN.out,show Kr r n s=m from HM.out.symm] <;> rfl,HX.out⟩
 have HC:=Qq hck;have HB:=Qq (show Bm r s=0 by unfold Bm;rw [if_neg HC.out]);obtain⟨ce,hce⟩:∃z,z=Vz r.length r:=⟨_,rfl⟩;rw [<-hce]at hck;have hne:(ce !=0)=true:=by simpa using hck
 have HCE:=Qq hce;clear hck hce;go_enter Tryz.func186,Tryz.ntmps186;go_wp2_with(go_at_call 113;refine(Xm _ r _ H.out HWD.out).mono ?_;rintro e w1 ⟨rfl,hx1⟩;rw [<-HCE.out];have HX1:=Qq hx1;clear hx1);go_ret;exact⟨by rw [HB.out] <;> rfl,HX1.out⟩
theorem Fq {P:Program} {fn:Func} {t:Tmp} {ty:TypeId}(h:fn.results=#[.cell t ty])(tmps:Array Value)(w:World) {a:Addr} {v:Value} {d:TypeDesc}(ht:tmps.getD t undef=.pointer (some a))(hc:w.cell? a=some v)
 (hu:P.underlying ty=some d)(hd:(match d with| .struct _| .array _ _=>true|_=>false)=false):(results fn tmps).run P w=.ok v w:=by
 have ht':tmps[t]?.getD undef=.pointer (some a):=by simpa using ht
 have hagg:(isAgg ty).run P w=.ok false w:=by
  unfold isAgg;rw [Sem.run_bind,run_underlying hu w];cases d <;> simp_all
 simp [results,h,ht',asAddr,loadVar,Sem.run_bind,hagg,hc]
open Classical in
noncomputable def Gb (q:Int) (l:List Nat):Bool:=decide (Ns q l)
theorem Hq {q:Int} {l:List Nat} :Gb q l=true↔Ns q l:=by
 unfold Gb;exact @decide_eq_true_iff _ (Classical.propDecidable _)
theorem Qm0(l:List Nat):Gb 1 l= !(l.any fun s=>decide (0=s)):=by
 rw [Bool.eq_iff_iff,Hq,Bool.not_eq_true',List.any_eq_false];unfold Ns;rw [if_pos rfl];constructor
 ·intro h s hs e;obtain⟨i,hi,rfl⟩:=List.getElem_of_mem hs;have:=h i hi;rw [Qk,Qv hi]at this;exact this (of_decide_eq_true e).symm
 intro h i hi e;rw [Qk,Qv hi]at e;exact h _ (List.getElem_mem hi) (decide_eq_true e.symm)
theorem Qcm(v:Value)(l:List Nat)(w:World)(h:Jv w v l)(hw:∀s∈l,Qw s)(hck:Vz l.length l=0):
 Calls Tryz.prog 166 #[v,.int .i64 1] w fun e w'=>e=.returned (.bool (Gb 1 l))/\Ext w w':=by
 have H:=Qq h;have HW:=Qq hw;have HCK:=Qq hck;have HP:=Qq (Qm0 l);obtain⟨A,c,rfl,_⟩:=h;obtain⟨pb,hpb⟩:∃b,b=(l.any fun s=>decide (0=s)):=⟨_,rfl⟩;have HCO:=Qq (fun w h=>Qgx 0 (.slice A l.length c) l w h);rw [<-hpb]at HP HCO;have HX0:=Qq (show Ext w ((w.alloc (.cells #[.slice A l.length c] 23)).alloc (.cells #[.bool false] 4))from(Qz.alloc _).alloc _);have HB0:=Qq ((Boxed.new w 23 (.slice A l.length c)).alloc (.cells #[.bool false] 4));have HB1:=Qq (show Boxed ((w.alloc (.cells #[.slice A l.length c] 23)).alloc (.cells #[.bool false] 4)) (w.heap.size+1) 4 (.bool false) by
  have:=Boxed.new (w.alloc (.cells #[.slice A l.length c] 23)) 4 (.bool false);rw [World.size_alloc]at this;exact this)
 clear hw hck hpb;go_enter Tryz.func166,Tryz.ntmps166;go_upto_region 1 with(fail);go_wp2_with(first|(go_at_call 113;refine(Xm _ l _ (H.out.ext HX0.out) HW.out).mono ?_;rintro e w2 ⟨rfl,hx2⟩;rw [HCK.out];have hb2:Boxed w2 w.heap.size 23 (.slice A l.length c):=(hx2.block HB0.out.lt).trans HB0.out;have hb3:Boxed w2 (w.heap.size+1) 4 (.bool false):=(hx2.block HB1.out.lt).trans HB1.out;have HX2:=Qq (HX0.out.trans hx2);have c2:=hb2.cell;have c3:=hb3.cell;have f3:=hb3.frozen;have HB2:=Qq hb2;have HB3:=Qq hb3;clear hx2 hb2 hb3)|(go_at_call 199;refine(HCO.out _ (H.out.ext HX2.out)).mono ?_;rintro e w4 ⟨rfl,hx4⟩;have HB4:=Qq (show Boxed w4 (w.heap.size+1) 4 (.bool false)from(hx4.block HB3.out.lt).trans HB3.out);have HX4:=Qq (HX2.out.trans hx4);have c4:=HB4.out.cell;have f4:=HB4.out.frozen;clear hx4))
 refine bodyPost_ret (Fq Tryz.results166 _ _ rfl (HB4.out.set _).cell Tryz.underlying4 rfl) rfl ?_;exact⟨by rw [HP.out] <;> rfl,HX4.out.setCell (p:=⟨w.heap.size+1,0,none⟩) (by show w.heap.size<=w.heap.size+1;omega) _⟩
theorem Qbn {s:Nat}(hs:Qw s)(k:Nat):(bits .and .u64 ((s:Int) / 2^k) 1==0)= !s.testBit k:=by
 have e:((s:Int) / 2^k)=((s / 2^k:Nat):Int):=by rw [Int.natCast_ediv,Int.natCast_pow];rfl
 rw [e,show(1:Int)=((1:Nat):Int)from rfl,Ud (Nat.lt_of_le_of_lt (Nat.div_le_self _ _) hs) (by show(1:Nat) < _;omega),Nat.and_one_is_mod,Nat.testBit_eq_decide_div_mod_eq];generalize s / 2^k=r;rw [Bool.eq_iff_iff,beq_iff_eq,Bool.not_eq_true',decide_eq_false_iff_not];omega
theorem Qxb(l:List Nat):Gb 2 l=true↔∀i,i < l.length->(l.getD i 0).testBit i=true:=by
 rw [Hq];unfold Ns;rw [if_neg (by decide),if_pos rfl];exact Iff.rfl
theorem Hm {q:Int} {l:List Nat}(h:¬Gb q l=true):Gb q l=false:=by
 cases e:Gb q l
 ·rfl
 exact absurd e h
theorem Qcp(v:Value)(l:List Nat)(w:World)(h:Jv w v l)(hw:∀s∈l,Qw s)(hck:Vz l.length l=0):
 Calls Tryz.prog 166 #[v,.int .i64 2] w fun e w'=>e=.returned (.bool (Gb 2 l))/\Ext w w':=by
 have H:=Qq h;have HW:=Qq hw;have HCK:=Qq hck;have hl64:=Bx hck;obtain⟨A,c,rfl,_,_,HA⟩:=Gy h;have HX0:=Qq (show Ext w ((w.alloc (.cells #[.slice A l.length c] 23)).alloc (.cells #[.bool false] 4))from(Qz.alloc _).alloc _);have HB0:=Qq ((Boxed.new w 23 (.slice A l.length c)).alloc (.cells #[.bool false] 4));have HB1:=Qq (show Boxed ((w.alloc (.cells #[.slice A l.length c] 23)).alloc (.cells #[.bool false] 4)) (w.heap.size+1) 4 (.bool false) by
  have:=Boxed.new (w.alloc (.cells #[.slice A l.length c] 23)) 4 (.bool false);rw [World.size_alloc]at this;exact this)
 clear hw hck h;go_enter Tryz.func166,Tryz.ntmps166;go_wp2_with(go_at_call 113;refine(Xm _ l _ (H.out.ext HX0.out) HW.out).mono ?_;rintro e w2 ⟨rfl,hx2⟩;rw [HCK.out];have hb2:Boxed w2 w.heap.size 23 (.slice A l.length c):=(hx2.block HB0.out.lt).trans HB0.out;have hb3:Boxed w2 (w.heap.size+1) 4 (.bool false):=(hx2.block HB1.out.lt).trans HB1.out;have HX2:=Qq (HX0.out.trans hx2);have c2:=hb2.cell;have c3:=hb3.cell;have f3:=hb3.frozen;have HB2:=Qq hb2;have HB3:=Qq hb3;clear hx2 hb2 hb3);go_loopw [24] (fun vi wr=>∃k:Nat,vi=.int .i64 (k:Int)/\k<=l.length/\Hid (wr=w2/\∀i,i < k->(l.getD i 0).testBit i=true)) (fun v _=>l.length - (intOf v).toNat)
 case atStart=>exact⟨0,rfl,Nat.zero_le _,Qq ⟨rfl,fun i hi=>absurd hi (Nat.not_lt_zero _)⟩⟩
 case round =>
  obtain⟨k,rfl,hk,HR⟩:=hrel;obtain rfl:=HR.out.1;by_cases hlt2:k < l.length
  ·have hk1:(k:Int) < (l.length:Int):=by omega
   have hmin2:min k 64=k:=by omega
   obtain⟨ad,rfl,hadl,hcl⟩:=HA.out k hlt2;have a0:=(HX2.out.cell (p:=ad.add k) (Qj hadl)).trans hcl;have HWK:=Qq (Uc HW.out k);have hbt:=Qbn HWK.out k;obtain⟨t,ht⟩:∃t,t=(l.getD k 0).testBit k:=⟨_,rfl⟩;have HT:=Qq ht;obtain⟨z,hz⟩:∃z,z=l.getD k 0:=⟨_,rfl⟩;rw [<-ht,<-hz]at hbt;rw [<-hz]at a0;clear ht hz hcl;cases t
   ·have HE:=Qq (Hm fun h=>by have:=(Qxb l).1 h k hlt2;rw [<-HT.out]at this;cases this);go_wp2_with fail;refine bodyPost_ret (Fq Tryz.results166 _ _ rfl (HB3.out.set _).cell Tryz.underlying4 rfl) rfl ?_;exact⟨by rw [HE.out] <;> rfl,HX2.out.setCell (p:=⟨w.heap.size+1,0,none⟩) (by show w.heap.size<=w.heap.size+1;omega) _⟩
   have HN:=Qq (show ∀i,i < k+1->(l.getD i 0).testBit i=true from fun i hi=>by
    by_cases e:i < k
    ·exact HR.out.2 i e
    obtain rfl:i=k:=by omega
    exact HT.out.symm)
   go_wp2_with fail;go_roundw
   case rel=>exact⟨k+1,by go_num,by omega,Qq ⟨trivial,HN.out⟩⟩
   case measure=>simp [intOf];omega
  obtain rfl:l.length=k:=by omega
  have HE:=Qq ((Qxb l).2 HR.out.2);go_wp2_with fail;refine bodyPost_ret (Fq Tryz.results166 _ _ rfl (HB3.out.set _).cell Tryz.underlying4 rfl) rfl ?_;exact⟨by rw [HE.out] <;> rfl,HX2.out.setCell (p:=⟨w.heap.size+1,0,none⟩) (by show w.heap.size<=w.heap.size+1;omega) _⟩
def He:Prop:=∀(v:Value) (l:List Nat) (q:Int) (w:World),Vf w->Jv w v l->(∀s∈l,Qw s)->Vz l.length l=0->0 < l.length->(q=1\/q=2\/q=4\/q=5)->
 Calls Tryz.prog 166 #[v,.int .i64 q] w fun e w'=>e=.returned (.bool (Gb q l))/\Ext w w'
theorem Qhx(HSS:He)(B:Nat)(v:Value)(l:List Nat)(q:Int)(w:World)(hT:Vf w)(h:Jv w v l)(hw:∀s∈l,Qw s)(hck:Vz l.length l=0)(h0:0 < l.length)(hq:q=1\/q=2\/q=4\/q=5)(hb:w.cell? ⟨B,0,none⟩=some v):
 Calls Tryz.prog 165 #[.int .i64 q,.pointer (some ⟨B,0,none⟩)] w fun e w'=>e=.returned (.bool (!Gb q l))/\Ext w w':=by
 have HS:=Qq (HSS v l q w hT h hw hck h0 hq);obtain⟨A,c,rfl,_⟩:=h;obtain⟨pb,hpb⟩:∃b,b=Gb q l:=⟨_,rfl⟩;rw [<-hpb]at HS⊢;clear HSS hT hw hck h0 hq hpb;go_enter Tryz.func165,Tryz.ntmps165;go_wp2_with fail;refine HS.out.mono ?_;rintro e w1 ⟨rfl,hx⟩;have HX:=Qq hx;clear hx;go_wp2_with fail;go_ret;exact⟨rfl,HX.out⟩
noncomputable def St (lg:Int) (l:List Nat):Bool:= !((Uh lg).any fun q=> !Gb q l)
theorem Qlt {lg:Int} {l:List Nat} :St lg l=true↔Wj lg l:=by
 unfold St Wj;rw [Bool.not_eq_true',List.any_eq_false];refine forall_congr' fun q=>imp_congr_right fun _=> ?_
 unfold Gb;simp
theorem Qwy(HSS:He)(v:Value)(l:List Nat)(lg:Int)(w:World)(hT:Vf w)(h:Jv w v l)(hw:∀s∈l,Qw s)(hck:Vz l.length l=0)(h0:0 < l.length)(hlg:0<=lg/\lg<=6):
 Calls Tryz.prog 101 #[v,.int .i64 lg] w fun e w'=>e=.returned (.bool (St lg l))/\Ext w w':=by
 have H:=Qq h;have HT:=Qq hT;have HW:=Qq hw;have HCK:=Qq hck;have HP:=Qq (show p15 lg=0 from if_pos hlg);have HGB:=Qq (show St lg l= !((Uh lg).any fun q=> !Gb q l)from rfl);have HC:=Qq (fun(B:Nat) (vp:Value) (w:World) (hT:Vf w) (hi:Bs w vp (Uh lg)) (hl:Jv w v l) (hB:B < w.heap.size) (hb:w.cell? ⟨B,0,none⟩=some v)=>
  Qv7 165 #[.pointer (some ⟨B,0,none⟩)] (fun _ _=>rfl) (fun q=> !Gb q l) vp (Uh lg) w hi
   (fun W q hq hx=>Qhx HSS B v l q W (hT.ext hx) (hl.ext hx) hw hck h0 (Qxd hq) ((hx.cell (p:=⟨B,0,none⟩) hB).trans hb)))
 obtain⟨A,c,rfl,_⟩:=h;obtain⟨pb,hpb⟩:∃b,b=(Uh lg).any fun q=> !Gb q l:=⟨_,rfl⟩
 rw [<-hpb]at HC HGB;clear HSS hT hw hck hlg hpb;go_enter Tryz.func101,Tryz.ntmps101;go_wp2_with(first|(go_at_call 98;refine(Mr lg _).mono ?_;rintro e w1 ⟨vp,rfl,hx1,hvp⟩;rw [HP.out];have HX1:=Qq (((Ext.refl w).alloc _).trans hx1);have HV:=Qq (hvp.out HP.out);have hc1:w1.cell? ⟨w.heap.size,0,none⟩=some (.slice A l.length c):=(hx1.cell (p:=⟨w.heap.size,0,none⟩) (by simp)).trans (by simp);have hb1:w.heap.size < w1.heap.size:=Qy (by simp) hx1.size;clear hx1 hvp)|(go_at_call 113;refine(Xm _ l _ (H.out.ext HX1.out) HW.out).mono ?_;rintro e w2 ⟨rfl,hx2⟩;rw [HCK.out];have HX2:=Qq (HX1.out.trans hx2);have HV2:=Qq (HV.out.ext hx2);have hc2:=(hx2.cell (p:=⟨w.heap.size,0,none⟩) hb1).trans hc1;have hb2:=Qy hb1 hx2.size;clear hx2)|(go_at_call 164;refine(HC.out w.heap.size _ _ (HT.out.ext HX2.out) HV2.out (H.out.ext HX2.out) hb2 hc2).mono ?_;rintro e w3 ⟨rfl,hx3⟩;have HX3:=Qq (HX2.out.trans hx3);clear hx3))
 go_ret;exact⟨by rw [HGB.out] <;> rfl,HX3.out⟩
theorem Qwv(HSS:He)(B:Nat)(v:Value)(l:List Nat)(lg:Int)(w:World)(hT:Vf w)(h:Jv w v l)(hw:∀s∈l,Qw s)(hck:Vz l.length l=0)(h0:0 < l.length)(hlg:0<=lg/\lg<=6)(hb:w.cell? ⟨B,0,none⟩=some (.int .i64 lg)):
 Calls Tryz.prog 100 #[v,.pointer (some ⟨B,0,none⟩)] w fun e w'=>e=.returned (.bool (!St lg l))/\Ext w w':=by
 have HS:=Qq (Qwy HSS v l lg w hT h hw hck h0 hlg);obtain⟨A,c,rfl,_⟩:=h;obtain⟨pb,hpb⟩:∃b,b=St lg l:=⟨_,rfl⟩;rw [<-hpb]at HS⊢;clear HSS hT hw hck h0 hlg hpb;go_enter Tryz.func100,Tryz.ntmps100;go_wp2_with fail;refine HS.out.mono ?_;rintro e w1 ⟨rfl,hx⟩;have HX:=Qq hx;clear hx;go_wp2_with fail;go_ret;exact⟨rfl,HX.out⟩
noncomputable def inB (md:Md) (lg:Int):Bool:= !(md.rel.any fun r=> !St lg r)
theorem Qi5(HSS:He)(vm:Value)(md:Md)(lg:Int)(w:World)(hT:Vf w)(hm:MdV w vm md)(hok:md.ok)(hck:Zj md=0)(hlg:0<=lg/\lg<=6):
 Calls Tryz.prog 39 #[vm,.int .i64 lg] w fun e w'=>e=.returned (.bool (inB md lg))/\Ext w w':=by
 have HM:=Qq hm;have HT:=Qq hT;have HOK:=Qq hok;have HCK:=Qq hck;have HP:=Qq (show p15 lg=0 from if_pos hlg);have HGB:=Qq (show inB md lg= !(md.rel.any fun r=> !St lg r)from rfl);have hz:=Zv hck;have hlow:=Qn3 hck;have HR:Hid (∀r∈md.rel,Vz r.length r=0/\0 < r.length):=Qq fun r hr=>by
  have hl:=hz.2.2.2.2.1 r hr;exact⟨Mk (by omega) (by omega) (hlow r hr),by omega⟩
 have HC:=Qq (fun(B:Nat) (vp:Value) (w:World) (hT:Vf w) (hi:To w vp md.rel) (hB:B < w.heap.size) (hb:w.cell? ⟨B,0,none⟩=some (.int .i64 lg))=>
  Ox 100 #[.pointer (some ⟨B,0,none⟩)] (fun _ _=>rfl) (fun r=> !St lg r) vp md.rel w hi
   (fun W u r hr hx hu=>Qwv HSS B u r lg W (hT.ext hx) hu (hok.rel r hr) (HR.out r hr).1 (HR.out r hr).2 hlg ((hx.cell (p:=⟨B,0,none⟩) hB).trans hb)))
 obtain⟨vv,vr,rfl,hv,hr⟩:=hm;have HRR:=Qq hr;obtain⟨pb,hpb⟩:∃b,b=(md.rel.any fun r=> !St lg r):=⟨_,rfl⟩;rw [<-hpb]at HC HGB;clear HSS hT hok hck hz hlow hlg hpb hv hr;go_enter Tryz.func39,Tryz.ntmps39;go_wp2_with(first|(go_at_call 98;refine(Mr lg _).mono ?_;rintro e w1 ⟨vp,rfl,hx1,hvp⟩;rw [HP.out];have HX1:=Qq ((((Ext.refl w).alloc _).alloc _).trans hx1);have hm0:w1.cell? ⟨w.heap.size,0,none⟩=some (.int .i64 md.n):=(hx1.cell (p:=⟨w.heap.size,0,none⟩) (by simp;omega)).trans (by simp);have hm1:w1.cell? ⟨w.heap.size,1,none⟩=some vv:=(hx1.cell (p:=⟨w.heap.size,1,none⟩) (by simp;omega)).trans (by simp);have hm2:w1.cell? ⟨w.heap.size,2,none⟩=some vr:=(hx1.cell (p:=⟨w.heap.size,2,none⟩) (by simp;omega)).trans (by simp);have hl0:w1.cell? ⟨w.heap.size+1,0,none⟩=some (.int .i64 lg):=(hx1.cell (p:=⟨w.heap.size+1,0,none⟩) (by simp)).trans (by simp);have hb1:w.heap.size+1 < w1.heap.size:=Qy (by simp) hx1.size;clear hx1 hvp)|(go_at_call 93;refine(Ki _ md _ (HM.out.ext HX1.out) HOK.out).mono ?_;rintro e w2 ⟨rfl,hx2⟩;rw [HCK.out];have HX2:=Qq (HX1.out.trans hx2);have hc2:=(hx2.cell (p:=⟨w.heap.size,2,none⟩) (by show w.heap.size < _;omega)).trans hm2;have hl2:=(hx2.cell (p:=⟨w.heap.size+1,0,none⟩) hb1).trans hl0;have hb2:=Qy hb1 hx2.size;clear hx2)|(go_at_call 99;refine(HC.out (w.heap.size+1) _ _ (HT.out.ext HX2.out) (HRR.out.ext HX2.out) hb2 hl2).mono ?_;rintro e w3 ⟨rfl,hx3⟩;have HX3:=Qq (HX2.out.trans hx3);clear hx3))
 go_ret;exact⟨by rw [HGB.out] <;> rfl,HX3.out⟩
theorem Qfh {md:Md} {lg:Int} :inB md lg=true↔∀r∈md.rel,Wj lg r:=by
 unfold inB;rw [Bool.not_eq_true',List.any_eq_false];refine forall_congr' fun r=>imp_congr_right fun _=> ?_
 rw [<-Qlt];cases St lg r <;> simp
theorem Qcw {md:Md} {lg:Int}(hck:Zj md=0)(hlg:0<=lg/\lg<=6)(h:inB md lg=true):Nk md lg:=by
 exact⟨hlg,hck,Qfh.1 h⟩
def trB(l:List Nat)(k:Nat):Bool:=Ym (orL l (Zc (l.getD k 0))) (l.getD k 0)
theorem Qm1 {l:List Nat}(hw:∀s∈l,Qw s)(hb:∀k,k < l.length->∀i,(l.getD k 0).testBit i=true->i < l.length):Gb 4 l=true↔∀k,k < l.length->trB l k=true:=by
 rw [Hq];unfold Ns;rw [if_neg (by decide),if_neg (by decide),if_pos rfl];unfold Gl trB;constructor
 ·intro h k hk;rw [Yd];intro i hi;rw [Of,List.any_eq_true]at hi;obtain⟨x,hx,hxi⟩:=hi;have hx2:=(Bd.1 hx).2;exact Yd.1 (h k x hk (hb k hk x hx2) hx2) i hxi
 intro h k x hk hx hkx;rw [Yd];intro i hi;refine Yd.1 (h k hk) i ?_;rw [Of,List.any_eq_true];exact⟨x,Bd.2 ⟨Qyn (Uc hw k) hkx,hkx⟩,hi⟩
theorem Qqm {l:List Nat}(hck:Vz l.length l=0) {k:Nat}(hk:k < l.length) {i:Nat}(hi:(l.getD k 0).testBit i=true):i < l.length:=by
 have h1:=(Rw.1 (show Re l=true by unfold Re;rw [hck];rfl)).2;unfold Zi at h1;rw [List.any_eq_false]at h1;have h2:=h1 (l.getD k 0) (by rw [Qk,Qv hk];exact List.getElem_mem _);rcases Nat.lt_or_ge i l.length with h3|h3
 ·exact h3
 have h4:l.getD k 0 < 2^l.length:=by simpa using h2
 rw [Nat.testBit_lt_two_pow (Qy h4 (Nat.pow_le_pow_right (by decide) h3))]at hi;cases hi
theorem Qcc(v:Value)(l:List Nat)(w:World)(hT:Vf w)(h:Jv w v l)(hw:∀s∈l,Qw s)(hck:Vz l.length l=0):
 Calls Tryz.prog 166 #[v,.int .i64 4] w fun e w'=>e=.returned (.bool (Gb 4 l))/\Ext w w':=by
 have H:=Qq h;have HW:=Qq hw;have HCK:=Qq hck;have HTZ:=Qq hT;have HPR:=Qq (Qm1 hw (fun k hk i hi=>Qqm hck hk hi));have hl64:=Bx hck;obtain⟨A,c,rfl,_,_,HA⟩:=Gy h;have HX0:=Qq (show Ext w ((w.alloc (.cells #[.slice A l.length c] 23)).alloc (.cells #[.bool false] 4))from(Qz.alloc _).alloc _);have HB0:=Qq ((Boxed.new w 23 (.slice A l.length c)).alloc (.cells #[.bool false] 4));have HB1:=Qq (show Boxed ((w.alloc (.cells #[.slice A l.length c] 23)).alloc (.cells #[.bool false] 4)) (w.heap.size+1) 4 (.bool false) by
  have:=Boxed.new (w.alloc (.cells #[.slice A l.length c] 23)) 4 (.bool false);rw [World.size_alloc]at this;exact this)
 clear hw hck h hT;go_enter Tryz.func166,Tryz.ntmps166;go_wp2_with(go_at_call 113;refine(Xm _ l _ (H.out.ext HX0.out) HW.out).mono ?_;rintro e w2 ⟨rfl,hx2⟩;rw [HCK.out];have hb2:Boxed w2 w.heap.size 23 (.slice A l.length c):=(hx2.block HB0.out.lt).trans HB0.out;have hb3:Boxed w2 (w.heap.size+1) 4 (.bool false):=(hx2.block HB1.out.lt).trans HB1.out;have HX2:=Qq (HX0.out.trans hx2);have c2:=hb2.cell;have HB2:=Qq hb2;have HB3:=Qq hb3;clear hx2 hb2 hb3);go_loopw [46] (fun vi wr=>∃k:Nat,vi=.int .i64 (k:Int)/\k<=l.length/\Hid (Ext w2 wr/\∀i,i < k->trB l i=true)) (fun v _=>l.length - (intOf v).toNat)
 case atStart=>exact⟨0,rfl,Nat.zero_le _,Qq ⟨Qz,fun i hi=>absurd hi (Nat.not_lt_zero _)⟩⟩
 case round =>
  obtain⟨k,rfl,hk,HR⟩:=hrel;have hb2:Boxed wr w.heap.size 23 (.slice A l.length c):=(HR.out.1.block HB2.out.lt).trans HB2.out;have hb3:Boxed wr (w.heap.size+1) 4 (.bool false):=(HR.out.1.block HB3.out.lt).trans HB3.out;have HXW:=Qq (HX2.out.trans HR.out.1);have HB2W:=Qq hb2;have HB3W:=Qq hb3;by_cases hlt2:k < l.length
  ·have hk1:(k:Int) < (l.length:Int):=by omega
   obtain⟨ad,rfl,hadl,hcl⟩:=HA.out k hlt2;have a0:=(HXW.out.cell (p:=ad.add k) (Qj hadl)).trans hcl;have al:(ad.add k).block < wr.heap.size:=by rw [Qc];exact Qy hadl HXW.out.size
   have c0:=hb2.cell;have cl:=hb2.lt;have HWK:=Qq (Uc HW.out k);obtain⟨t,ht⟩:∃t,t=trB l k:=⟨_,rfl⟩;have HT:=Qq ht;obtain⟨z,hz⟩:∃z,z=l.getD k 0:=⟨_,rfl⟩;have HIN:=Qq (show ∀i,z.testBit i=true->i < l.length by rw [hz];exact fun i hi=>Qqm HCK.out hlt2 hi);obtain⟨o,ho⟩:∃o,o=orL l (Zc z):=⟨_,rfl⟩;have HOW:=Qq (show Qw o by rw [ho];exact Qf7 HW.out _);have HDIF:Hid ((((Jz o z:Nat):Int)==0)=t):=Qq (by
    rw [ht,show(((Jz o z:Nat):Int)==0)=(Jz o z==0) by rw [Bool.eq_iff_iff,beq_iff_eq,beq_iff_eq];omega,Tq,ho,hz]
    rfl)
   rw [<-hz]at a0 HWK;have hdf:=Vi HOW.out HWK.out;have HMP:=Qq (fun w hT h=>Qse (.slice (some ad) l.length c) l z w h HW.out HWK.out HIN.out hT);rw [<-ho]at HMP;obtain⟨d,hd⟩:∃d,d=Jz o z:=⟨_,rfl⟩;rw [<-hd]at hdf HDIF;clear ht hz hcl ho hd hb2 hb3;go_upto_region 20 with(fail);refine wp_region_held_drew (S:=fun w'=>w'.cell? (⟨w.heap.size,0,none⟩)=some (.slice (some ad) l.length c)/\w'.cell? (ad.add k)=some (.int .u64 (z:Int))) (by kernel_rfl) ⟨(Ext.cell (p:=⟨w.heap.size,0,none⟩) (by repeat(first|exact Qz|assumption|apply Ext.alloc|apply Ext.drew)) cl).trans c0,(Ext.cell (p:=ad.add k) (by repeat(first|exact Qz|assumption|apply Ext.alloc|apply Ext.drew)) al).trans a0⟩ (fun hHeld=> ?_)
   refine' wpAnyH_take (i:=0) (v:=_) rfl (by kernel_rfl) (by kernel_rfl) (by kernel_rfl) (fun _ _ _ h=>h) (Or.inl ⟨by rfl,?hybw10⟩) hHeld ?restbw10
   case hybw10=>(intro w' hSw;(try dsimp only at hSw);go_simp;(try with_reducible rfl))
   refine Qd ?_;refine' wpAnyH_take (i:=1) (v:=_) rfl (by kernel_rfl) (by kernel_rfl) (by kernel_rfl) (fun _ _ _ h=>h) (Or.inl ⟨by rfl,?hybw11⟩) hHeld ?restbw11
   case hybw11=>(intro w' hSw;(try dsimp only at hSw);go_simp;(try with_reducible rfl))
   refine Qd ?_;refine' wpAnyH_take (i:=2) (v:=_) rfl (by kernel_rfl) (by kernel_rfl) (by kernel_rfl) (fun _ _ _ h=>h) (Or.inl ⟨by rfl,?hybw12⟩) hHeld ?restbw12
   case hybw12=>(intro w' hSw;(try dsimp only at hSw);go_simp;(try with_reducible rfl))
   refine Qd ?_;refine' wpAnyH_take (i:=3) (v:=_) rfl (by kernel_rfl) (by kernel_rfl) (by kernel_rfl) (fun _ _ _ h=>h) (Or.inl ⟨by rfl,?hybw13⟩) hHeld ?restbw13
   case hybw13=>(intro w' hSw;(try dsimp only at hSw);go_simp;(try with_reducible rfl))
   refine Qd ?_;refine' wpAnyH_take (i:=4) (v:=_) rfl (by kernel_rfl) (by kernel_rfl) (by kernel_rfl) (fun _ _ _ h=>h) (Or.inl ⟨by rfl,?hybw14⟩) hHeld ?restbw14
   case hybw14=>(intro w' hSw;(try dsimp only at hSw);go_simp;(try with_reducible rfl))
   refine Qd ?_;refine' wpAnyH_take (i:=6) (v:=_) rfl (by kernel_rfl) (by kernel_rfl) (by kernel_rfl) (fun _ _ _ h=>h) (Or.inl ⟨by rfl,?hybw16⟩) hHeld ?restbw16
   case hybw16=>(intro w' hSw;(try dsimp only at hSw);go_simp;(try with_reducible rfl))
   refine Qd ?_;refine' wpAnyH_take (i:=7) (v:=_) rfl (by kernel_rfl) (by kernel_rfl) (by kernel_rfl) (fun _ _ _ h=>h) (Or.inl ⟨by rfl,?hybw17⟩) hHeld ?restbw17
   case hybw17=>(intro w' hSw;(try dsimp only at hSw);go_simp;(try with_reducible rfl))
   refine Qd ?_;refine' wpAnyH_take (i:=8) (v:=_) rfl (by kernel_rfl) (by kernel_rfl) (by kernel_rfl) (fun _ _ _ h=>h) (Or.inl ⟨by rfl,?hybw18⟩) hHeld ?restbw18
   case hybw18=>(intro w' hSw;(try dsimp only at hSw);go_simp;(try with_reducible rfl))
   refine Qd ?_;refine' wpAnyH_take (i:=9) (v:=_) rfl (by kernel_rfl) (by kernel_rfl) (by kernel_rfl) (fun _ _ _ h=>h) (Or.inl ⟨by rfl,?hybw19⟩) hHeld ?restbw19
   case hybw19=>(intro w' hSw;(try dsimp only at hSw);go_simp;(try with_reducible rfl))
   refine Qd ?_;refine wpAnyH_ready (rs:= [5]) (by kernel_rfl) (by simp) ?_;refine AllReadyH.cons rfl (fun K hK=> ?_) AllReadyH.nil;go_simp;refine(HMP.out _ (HTZ.out.ext (HXW.out.trans (by repeat(first|exact Qz|assumption|apply Ext.alloc|apply Ext.drew)))) (H.out.ext (HXW.out.trans (by repeat(first|exact Qz|assumption|apply Ext.alloc|apply Ext.drew))))).mono ?_;rintro e w5 ⟨rfl,hx5⟩;have HX5:=Qq (show Ext wr w5 from(Ext.refl wr).drew.trans hx5);go_wp2_with fail;refine hK.out _ _ ⟨(Ext.cell (p:=⟨w.heap.size,0,none⟩) (by repeat(first|exact Qz|assumption|apply Ext.alloc|apply Ext.drew)) cl).trans c0,(Ext.cell (p:=ad.add k) (by repeat(first|exact Qz|assumption|apply Ext.alloc|apply Ext.drew)) al).trans a0⟩ (fun hHeld=> ?_)
   clear hK K;refine Qd ?_;refine' wpAnyH_take (i:=10) (v:=_) rfl (by kernel_rfl) (by kernel_rfl) (by kernel_rfl) (fun _ _ _ h=>h) (Or.inl ⟨by rfl,?hybw110⟩) hHeld ?restbw110
   case hybw110=>(intro w' hSw;(try dsimp only at hSw);go_simp;(try with_reducible rfl))
   refine Qd ?_;refine' wpAnyH_take (i:=11) (v:=_) rfl (by kernel_rfl) (by kernel_rfl) (by kernel_rfl) (fun _ _ _ h=>h) (Or.inl ⟨by rfl,?hybw111⟩) hHeld ?restbw111
   case hybw111=>(intro w' hSw;(try dsimp only at hSw);go_simp;(try with_reducible rfl))
   refine Qd ?_;refine wpAnyH_done (by kernel_rfl) ?_ _;have hb5:Boxed w5 (w.heap.size+1) 4 (.bool false):=(HX5.out.block HB3W.out.lt).trans HB3W.out;have HB5:=Qq hb5;have c5:=hb5.cell;have f5:=hb5.frozen;have HXE:=Qq (HXW.out.trans HX5.out);clear hb5;cases t
   ·have hdd:((d:Int)==0)=false:=HDIF.out;have hde:((d:Int) !=0)=true:=by simpa using hdd
    have HE:=Qq (Hm fun h=>by have:=HPR.out.1 h k hlt2;rw [<-HT.out]at this;cases this);go_wp2_with fail;refine bodyPost_ret (Fq Tryz.results166 _ _ rfl (HB5.out.set _).cell Tryz.underlying4 rfl) rfl ?_;exact⟨by rw [HE.out] <;> rfl,HXE.out.setCell (p:=⟨w.heap.size+1,0,none⟩) (by show w.heap.size<=w.heap.size+1;omega) _⟩
   have hdd:((d:Int)==0)=true:=HDIF.out;have hde:((d:Int) !=0)=false:=by simpa using hdd
   have HN:=Qq (show ∀i,i < k+1->trB l i=true from fun i hi=>by
    by_cases e:i < k
    ·exact HR.out.2 i e
    obtain rfl:i=k:=by omega
    exact HT.out.symm)
   have HRX:=Qq (HR.out.1.trans HX5.out);go_wp2_with fail;go_roundw
   case rel=>exact⟨k+1,by go_num,by omega,Qq ⟨HRX.out,HN.out⟩⟩
   case measure=>simp [intOf];omega
  obtain rfl:l.length=k:=by omega
  have c0:=hb3.cell;have f0:=hb3.frozen;have HE:=Qq (HPR.out.2 HR.out.2);go_wp2_with fail;refine bodyPost_ret (Fq Tryz.results166 _ _ rfl (HB3W.out.set _).cell Tryz.underlying4 rfl) rfl ?_;exact⟨by rw [HE.out] <;> rfl,HXW.out.setCell (p:=⟨w.heap.size+1,0,none⟩) (by show w.heap.size<=w.heap.size+1;omega) _⟩
section
variable {P:Program} {n l:Nat} {ops:Array Oper} {Q:Exit->Act->World->Prop} {md:Region.Mode}
theorem Qhq {o:Oper} {a:Act} {w:World} {K:Act->World->Prop}(hd:∀c,o.op≠.defer c)(h:o.wp P a w K Q):o.wpIn (Fence.wide.inRound l) n P a w K Q:=by
 refine⟨fun _ _=>trivial,?_⟩;unfold Oper.wp at h;rw [show(Fence.wide.inRound l).round=some l from rfl,Oper.semAt_some l a.eval o hd];generalize (execOp a.eval o).run P w=r at *;cases r with
 |ok x w' =>
  cases x with
  |value v=>exact h
  |skip=>exact h
  |defer d=>exact h
  |enter f args=>exact⟨fun e=>(by cases e),CallsIn.inRound l (callsIn_wide.2 h)⟩
  |row row args=>exact⟨fun e=>(by cases e),fun c cs _=>let ⟨v,w',r,s⟩:=h c cs;⟨v,w',r,stepsIn_wide.2 s⟩⟩
  |_=>exact h.elim
 |halt x w'=>cases x <;> exact h
theorem Cd(hnd:∀(i:Nat) (o:Oper),ops[i]?=some o->∀c,o.op≠.defer c)(hQ:¬LetsOut Q):∀(fuel:Nat) (listed:Array Bool) (a:Act) (w:World),wpAny P md ops Q fuel listed a w->wpAnyIn (Fence.wide.inRound l) n P md ops Q fuel listed a w
 |0,_,_,_,h=>h
 |fuel+1,listed,a,w,h=>⟨h.1,fun i hi=>by
  have h2:=h.2 i hi;unfold wpOp at h2;unfold wpOpIn;cases ho:ops[i]? with
  |none=>rw [ho]at h2;exact Cd hnd hQ fuel _ _ _ h2
  |some o =>
   rw [ho]at h2;simp only at h2⊢
   split
   ·rename_i hw;rw [if_pos hw]at h2;rcases h2 with h3|⟨_,h3⟩
    ·exact Oper.wpIn_mono (fun a' w' h4=>Cd hnd hQ fuel _ _ _ h4) (Qhq (hnd i o ho) h3)
    exact absurd h3 hQ
   rename_i hw;rw [if_neg hw]at h2;exact⟨fun _ _=>trivial,Cd hnd hQ fuel _ _ _ h2⟩⟩
def Qne(ops:Array Oper):Bool:=ops.all fun o=>match o.op with| .defer _=>false|_=>true
theorem Qqj {S:World->Prop} {id:Nat} {a:Act} {w:World}(hm:P.follows .mixedOrders=true)(hnd:Qne ops=true)(hQ:¬LetsOut Q)(hS:S w.drew)
 (h:S w.drew->wpAnyH P .any ops Q S ops.size (Array.replicate ops.size false) a w.drew):(Code.region id ops true).wpIn (Fence.wide.inRound l) n P Q a w:=by
 refine wpIn_region_any hm (Cd (fun i o ho c hc=> ?_) hQ _ _ _ _ (wpAny_of_held _ _ _ _ (h hS)));unfold Qne at hnd;rw [Array.all_eq_true']at hnd;have:=hnd o (Array.mem_of_getElem? ho);rw [hc]at this;cases this
end
end Go.Proofs.YtkmclcmnoicagaaGreatDoor
