/- The first place at which a test holds; plain. -/
import Derived.Test.YtmidgcldljfkcaaGreatDoorM01
import Derived.Test.YtmidgcldljfkcaaGreatDoorM16
import Derived.Test.YtmidgcldljfkcaaGreatDoorM13
import Derived.Test.YtmidgcldljfkcaaGreatDoorM30
import Derived.Test.YtmidgcldljfkcaaGreatDoorM14
import Derived.OrdersIn
import Derived.OrdersHeld
import Derived.TacticsInMore
namespace Go.Proofs.YtmidgcldljfkcaaGreatDoor
set_option maxRecDepth 100000
set_option maxHeartbeats 128000000
def Bo {α:Type}(p:α->Bool)(l:List α):Int:=match l.findIdx? p with|none=> -1|some j=>j
theorem Mt {α:Type} {p:α->Bool} {l:List α} {k:Nat} {s:α}(h:l[k]?=some s)(hp:p s=true)(hn:∀t∈l.take k,p t=false):Bo p l=(k:Int):=by
 have:l.findIdx? p=some k:=by
  induction l generalizing k with
  |nil=>simp at h
  |cons a r ih =>
   cases k with
   |zero =>
    simp only [List.getElem?_cons_zero,Option.some.injEq]at h;subst h;rw [List.findIdx?_cons,hp];rfl
   |succ k =>
    have ha:p a=false:=hn a (by simp);rw [List.findIdx?_cons,ha,ih (k:=k) (by simpa using h) (fun t ht=>hn t (by simp [ht]))];rfl
 unfold Bo;rw [this]
theorem Rd {α:Type} {p:α->Bool} {l:List α}(hn:∀t∈l,p t=false):Bo p l= -1:=by
 have:l.findIdx? p=none:=by
  induction l with
  |nil=>simp
  |cons a r ih=>rw [List.findIdx?_cons,hn a (by simp),ih (fun t ht=>hn t (by simp [ht]))];rfl
 unfold Bo;rw [this]
theorem Mr {α:Type}(p:α->Bool)(l:List α):decide (0<=Bo p l)=l.any p:=by
 by_cases h:∃t∈l,p t=true
 ·obtain⟨t,ht,hp⟩:=h;have e:∃j,l.findIdx? p=some j:=by
   cases hj:l.findIdx? p with
   |some j=>exact⟨j,rfl⟩
   |none=>exact absurd hp (by rw [List.findIdx?_eq_none_iff.1 hj t ht];simp)
  obtain⟨j,hj⟩:=e;rw [show l.any p=true from List.any_eq_true.2 ⟨t,ht,hp⟩];unfold Bo;rw [hj];exact decide_eq_true (Int.natCast_nonneg j)
 have hn:∀t∈l,p t=false:=fun t ht=>by
  cases e:p t
  ·rfl
  exact absurd ⟨t,ht,e⟩ h
 rw [Rd hn,show l.any p=false from List.any_eq_false.2 (fun t ht=>by rw [hn t ht];simp)];rfl
theorem Ti {α:Type} {l:List α} {k:Nat} {s:α}(h:l[k]?=some s):l.take (k+1)=l.take k++ [s]:=by
 rw [List.take_add_one,h];rfl
theorem Qjt {α:Type} {l:List α} {k:Nat} {s:α}(h:l[k]?=some s):s∈l:=List.mem_of_getElem? h
open Go.RowKit
theorem Qbx(x:Nat)(v:Value)(l:List Nat)(w:World)(h:Yi w v l):
 Calls Tryz.prog 102 #[v,.int .u64 (x:Int)] w fun e w'=>e=.returned (.int .i64 (Bo (fun s=>decide (x=s)) l))/\Ext w w':=by
 obtain⟨A,c,rfl,hcap,hmax,HR⟩:=Fl h;unfold maxLen at hmax;clear h;go_enter Tryz.func102,Tryz.ntmps102;go_wp2_with fail;go_loopw [5,8] (fun _ i wr=>∃k:Nat,k<=l.length/\i=.int .i64 (k:Int)/\Hid (∀t∈l.take k,decide (x=t)=false)/\Hid (Ext w wr)) (fun _ i _=>l.length - (intOf i).toNat)
 case atStart=>exact⟨0,Nat.zero_le _,rfl,Qq (by simp),Qq Qz⟩
 case round =>
  obtain⟨k,hk,rfl,HNI,HX⟩:=hrel;by_cases hlt2:k < l.length
  ·obtain⟨s,hs⟩:∃s,l[k]?=some s:=⟨_,Qv hlt2⟩;obtain⟨ad,rfl,hb1,hc1⟩:=HR.out k hlt2;rw [Qk,hs,Option.getD_some]at hc1;have a0:wr.cell? (ad.add k)=some (.int .u64 (s:Int)):=(HX.out.cell (p:=ad.add k) (Qj hb1)).trans hc1;clear hc1;have HA:=Qq hs;have hk1:(k:Int) < (l.length:Int):=by omega
   clear hs;by_cases hps:x=s
   ·have heq:((x:Int)==(s:Int))=true:=by simp [hps]
    have HE:=Qq (Mt (p:=fun s=>decide (x=s)) HA.out (decide_eq_true hps) HNI.out);clear hps;go_wp2_with fail;go_ret;exact⟨by rw [HE.out] <;> rfl,HX.out⟩
   have heq:((x:Int)==(s:Int))=false:=by simp only [beq_eq_false_iff_ne,ne_eq,Int.natCast_inj];exact hps
   have HT:Hid (∀t∈l.take (k+1),decide (x=t)=false):=Qq (by
    rw [Ti HA.out];intro t ht;rcases List.mem_append.1 ht with ht|ht
    ·exact HNI.out t ht
    rw [List.mem_singleton.1 ht];exact decide_eq_false hps)
   clear hps;go_wp2_with fail;go_roundw
   case rel=>exact⟨k+1,by omega,by go_num,HT,HX⟩
   case measure=>simp [intOf];omega
  obtain rfl:l.length=k:=by omega
  have HE:=Qq (Rd (p:=fun s=>decide (x=s)) (l:=l) (fun t ht=>HNI.out t (by rw [List.take_of_length_le (Nat.le_refl _)];exact ht)));go_wp2_with fail;go_ret;exact⟨by rw [HE.out] <;> rfl,HX.out⟩
theorem Qyi(x:Nat)(v:Value)(l:List Nat)(w:World)(h:Yi w v l):
 Calls Tryz.prog 76 #[v,.int .u64 (x:Int)] w fun e w'=>e=.returned (.bool (l.any fun s=>decide (x=s)))/\Ext w w':=by
 have HI:=Qq (Qbx x v l w h);have HE:=Qq (Mr (fun s=>decide (x=s)) l);clear h;obtain⟨z,hz⟩:∃z,z=Bo (fun s=>decide (x=s)) l:=⟨_,rfl⟩;rw [<-hz]at HI HE;clear hz;go_enter Tryz.func76,Tryz.ntmps76;go_wp2_with(refine HI.out.mono ?_;rintro e w1 ⟨rfl,hx⟩);go_ret;exact⟨by rw [<-HE.out] <;> rfl,hx⟩
theorem Ht(n:Nat)(h:n<=64)(w:World):Calls Tryz.prog 74 #[.int .i64 (n:Int)] w fun e w'=>e=.returned (.int .u64 ((Zo n:Nat):Int))/\w=w':=by
 by_cases h64:n=64
 ·subst h64;go_enter Tryz.func74,Tryz.ntmps74;go_wp2_with fail;go_ret;exact⟨rfl,rfl⟩
 have hn:n < 64:=by omega
 have hn1:¬(64:Int)<=(n:Int):=by omega
 have hmin:min n 64=n:=by omega
 have HW:=Qq (Qk4 hn);clear h64 h;go_enter Tryz.func74,Tryz.ntmps74;go_wp2_with fail;go_ret;exact⟨by rw [<-show((2^n - 1:Nat):Int)=((Zo n:Nat):Int)from rfl,<-HW.out] <;> rfl,rfl⟩
theorem Qbn(n:Nat)(h:n<=64)(w:World):Calls Tryz.prog 73 #[.int .i64 (n:Int)] w fun e w'=>e=.returned (.int .u64 ((Zo n:Nat):Int))/\w=w':=by
 by_cases h64:n=64
 ·subst h64;go_enter Tryz.func73,Tryz.ntmps73;go_wp2_with fail;go_ret;exact⟨rfl,rfl⟩
 have hn:n < 64:=by omega
 have hn1:¬(64:Int)<=(n:Int):=by omega
 have hmin:min n 64=n:=by omega
 have HW:=Qq (Qk4 hn);clear h64 h;go_enter Tryz.func73,Tryz.ntmps73;go_wp2_with fail;go_ret;exact⟨by rw [<-show((2^n - 1:Nat):Int)=((Zo n:Nat):Int)from rfl,<-HW.out] <;> rfl,rfl⟩
theorem Xx(v:Value)(l:List Nat)(w:World)(h:Yi w v l)(hw:∀s∈l,Qi s):
 Calls Tryz.prog 47 #[.int .i64 (l.length:Int),v] w fun e w'=>e=.returned (.int .i64 (Yj l.length l))/\Ext w w':=by
 obtain⟨A,c,rfl,hlc,hcm,HL⟩:=Fl h;have HWD:=Qq hw;unfold maxLen at hcm;clear h hw;by_cases hn:l.length<=64
 ·have hn1:¬(64:Int) < (l.length:Int):=by omega
  have HC:=Qq (show Yj l.length l=if Jd l l.length then 1 else 0 by unfold Yj;rw [if_neg (by omega),if_neg (by simp)];rfl);obtain⟨n,hne⟩:∃n,n=l.length:=⟨_,rfl⟩;have HN:=Qq hne;rw [<-hne]at HC hn;rw [<-hne];have hn2:¬(64:Int) < (n:Int):=by omega
  have hne2:((n:Int) !=(n:Int))=false:=by simp
  have hlen:l.length=n:=hne.symm;clear hne hn1;go_enter Tryz.func47,Tryz.ntmps47;go_wp2_with fail;go_loopw [19] (fun v wr=>∃k:Nat,v=.int .i64 (k:Int)/\k<=n/\Hid (Ext w wr/\∀j,j < k->decide (l.getD j 0 < 2^n)=true)) (fun v _=>n - (intOf v).toNat)
  case atStart=>exact⟨0,rfl,Nat.zero_le _,Qq ⟨Qz,fun j hj=>absurd hj (by omega)⟩⟩
  case round =>
   obtain⟨k,rfl,hk,HREL⟩:=hrel;have HX:=Qq HREL.out.1;have HJ:=Qq HREL.out.2;clear HREL;by_cases hlt2:k < n
   ·have hk1:(k:Int) < (n:Int):=by omega
    obtain⟨ad,rfl,hadl,hc⟩:=HL.out k (by omega);have a0:=(HX.out.cell (p:=ad.add k) (Qj hadl)).trans hc;have al:(ad.add k).block < wr.heap.size:=by rw [Qn];exact Qy hadl HX.out.size
    have HNX:=Qq (show decide (l.getD k 0 < 2^n)=true->∀j,j < k+1->decide (l.getD j 0 < 2^n)=true from fun h=>Qmt (P:=fun j=>decide (l.getD j 0 < 2^n)=true) HJ.out h);have HHT:=Qq (show decide (l.getD k 0 < 2^n)=false->Jd l n=true from Qnz (by omega));have hout:=Qg6 (n:=n) (Ty HWD.out k) hn;obtain⟨sx,hsx⟩:∃s,s=l.getD k 0:=⟨_,rfl⟩;rw [<-hsx]at a0 hout HNX HHT;clear hc hsx;cases hd:decide (sx < 2^n)
    ·rw [hd]at hout;have HD:=Qq hd;clear hd;have HE:=Qq (HHT.out HD.out);go_wp2_with(go_at_call 74;refine(Ht n hn _).mono ?_;rintro e w3 ⟨rfl,rfl⟩);go_ret;exact⟨by rw [HC.out,HE.out] <;> rfl,HX.out⟩
    rw [hd]at hout;have HD:=Qq hd;clear hd;have HP:=Qq (HNX.out HD.out);go_wp2_with(go_at_call 74;refine(Ht n hn _).mono ?_;rintro e w3 ⟨rfl,rfl⟩);go_roundw
    case rel=>exact⟨k+1,by go_num,by omega,Qq ⟨HX.out,HP.out⟩⟩
    case measure=>simp [intOf];omega
   obtain rfl:n=k:=by omega
   have HE:=Qq (show Jd l n=false from Qga (by rw [hlen];exact HJ.out));go_wp2_with fail;go_ret;exact⟨by rw [HC.out,HE.out] <;> rfl,HX.out⟩
 have hn1:(64:Int) < (l.length:Int):=by omega
 have HC:=Qq (show Yj l.length l=2 by unfold Yj;rw [if_pos (by omega)]);go_enter Tryz.func47,Tryz.ntmps47;go_wp2_with fail;go_ret;exact⟨by rw [HC.out] <;> rfl,Qz⟩
def Be(r:List Nat)(s:Nat):Nat:=if Yj r.length r=0 then Kd r r.length s else 0
theorem Bs {r:List Nat}(h:Yj r.length r=0):r.length<=64:=by
 unfold Yj at h;split at h
 ·cases h
 omega
theorem Sx(v:Value)(r:List Nat)(s:Nat)(w:World)(h:Yi w v r)(hw:∀s∈r,Qi s)(hs:Qi s):
 Calls Tryz.prog 91 #[v,.int .u64 (s:Int)] w fun e w'=>e=.returned (.int .u64 ((Be r s:Nat):Int))/\Ext w w':=by
 have H:=Qq h;obtain⟨A,c,rfl,_,_,HL⟩:=Fl h;have HWD:=Qq hw;have HS:=Qq hs;clear h hw hs;by_cases hck:Yj r.length r=0
 ·have hn:=Bs hck;have HC:=Qq hck;have HB:=Qq (show Be r s=Kd r r.length s by unfold Be;rw [if_pos HC.out]);clear hck;obtain⟨n,hne⟩:∃n,n=r.length:=⟨_,rfl⟩;have HN:=Qq hne;go_enter Tryz.func91,Tryz.ntmps91;clear hne;go_upto_region 1 with(fail);go_wp2_with(go_at_call 47;refine(Xx _ r _ H.out HWD.out).mono ?_;rintro e w1 ⟨rfl,hx1⟩;rw [HC.out];have HX1:=Qq hx1;clear hx1);rw [<-HN.out];go_loopw [5,14] (fun vo vi wr=>∃k:Nat,vi=.int .i64 (k:Int)/\k<=n/\vo=.int .u64 ((By k (fun i=>Yd (r.getD i 0) s):Nat):Int)/\Hid (Ext w wr)) (fun _ v _=>n - (intOf v).toNat)
  case atStart=>exact⟨0,rfl,Nat.zero_le _,rfl,Qq HX1.out⟩
  case round =>
   obtain⟨k,rfl,hk,rfl,HX⟩:=hrel;obtain⟨m,hm⟩:∃m,m=By k (fun i=>Yd (r.getD i 0) s):=⟨_,rfl⟩;have HM:=Qq hm;rw [<-hm];clear hm;by_cases hlt2:k < n
   ·have hk1:(k:Int) < (n:Int):=by omega
    have hk2:(k:Int) < (r.length:Int):=by rw [<-HN.out];exact hk1
    have hk64:k < 64:=by omega
    have hmin:min k 64=k:=by omega
    obtain⟨ad,rfl,hadl,hc⟩:=HL.out k (by rw [<-HN.out];exact hlt2);have a0:=(HX.out.cell (p:=ad.add k) (Qj hadl)).trans hc;have al:(ad.add k).block < wr.heap.size:=by rw [Qn];exact Qy hadl HX.out.size
    have hz:=Qx3 (Ty HWD.out k) HS.out;have HSU:=Qq (Ep k (fun i=>Yd (r.getD i 0) s));have HOR:=Qq (Qhh (s:=m) (k:=k) (by rw [HM.out];exact Ew (by omega) _) hk64);obtain⟨x,hx⟩:∃x,x=r.getD k 0:=⟨_,rfl⟩;rw [<-hx]at a0 hz;have HXE:=Qq hx;clear hc hx;cases hd:Yd x s
    ·rw [hd]at hz;have HP:=Qq (show By (k+1) (fun i=>Yd (r.getD i 0) s)=m by rw [HSU.out,<-HXE.out,hd,HM.out];rfl);clear hd;go_wp2_with fail;go_roundw
     case rel=>exact⟨k+1,by go_num,by omega,by rw [HP.out],HX⟩
     case measure=>simp [intOf];omega
    rw [hd]at hz;have HP:=Qq (show By (k+1) (fun i=>Yd (r.getD i 0) s)=m|||2^k by rw [HSU.out,<-HXE.out,hd,HM.out];rfl);have hor:=HOR.out;clear hd;obtain⟨m2,hm2⟩:∃m2,m2=m|||2^k:=⟨_,rfl⟩;rw [<-hm2]at HP hor;clear hm2;go_wp2_with fail;go_roundw
    case rel=>exact⟨k+1,by go_num,by omega,by rw [HP.out],HX⟩
    case measure=>simp [intOf];omega
   obtain rfl:n=k:=by omega
   go_wp2_with fail;go_ret;exact⟨by rw [HB.out,<-HN.out,show Kd r n s=m from HM.out.symm] <;> rfl,HX.out⟩
 have HC:=Qq hck;have HB:=Qq (show Be r s=0 by unfold Be;rw [if_neg HC.out]);obtain⟨ce,hce⟩:∃z,z=Yj r.length r:=⟨_,rfl⟩;rw [<-hce]at hck;have hne:(ce !=0)=true:=by simpa using hck
 have HCE:=Qq hce;clear hck hce;go_enter Tryz.func91,Tryz.ntmps91;go_wp2_with(go_at_call 47;refine(Xx _ r _ H.out HWD.out).mono ?_;rintro e w1 ⟨rfl,hx1⟩;rw [<-HCE.out];have HX1:=Qq hx1;clear hx1);go_ret;exact⟨by rw [HB.out] <;> rfl,HX1.out⟩
theorem Fj {P:Program} {fn:Func} {t:Tmp} {ty:TypeId}(h:fn.results=#[.cell t ty])(tmps:Array Value)(w:World) {a:Addr} {v:Value} {d:TypeDesc}(ht:tmps.getD t undef=.pointer (some a))(hc:w.cell? a=some v)
 (hu:P.underlying ty=some d)(hd:(match d with| .struct _| .array _ _=>true|_=>false)=false):(results fn tmps).run P w=.ok v w:=by
 have ht':tmps[t]?.getD undef=.pointer (some a):=by simpa using ht
 have hagg:(isAgg ty).run P w=.ok false w:=by
  unfold isAgg;rw [Sem.run_bind,run_underlying hu w];cases d <;> simp_all
 simp [results,h,ht',asAddr,loadVar,Sem.run_bind,hagg,hc]
open Classical in
noncomputable def Xa (q:Int) (l:List Nat):Bool:=decide (Rc q l)
theorem Ml {q:Int} {l:List Nat} :Xa q l=true↔Rc q l:=by
 unfold Xa;exact @decide_eq_true_iff _ (Classical.propDecidable _)
theorem Qn3(l:List Nat):Xa 1 l= !(l.any fun s=>decide (0=s)):=by
 rw [Bool.eq_iff_iff,Ml,Bool.not_eq_true',List.any_eq_false];unfold Rc;rw [if_pos rfl];constructor
 ·intro h s hs e;obtain⟨i,hi,rfl⟩:=List.getElem_of_mem hs;have:=h i hi;rw [Qk,Qv hi]at this;exact this (of_decide_eq_true e).symm
 intro h i hi e;rw [Qk,Qv hi]at e;exact h _ (List.getElem_mem hi) (decide_eq_true e.symm)
theorem Qti(v:Value)(l:List Nat)(w:World)(h:Yi w v l)(hw:∀s∈l,Qi s)(hck:Yj l.length l=0):
 Calls Tryz.prog 50 #[v,.int .i64 1] w fun e w'=>e=.returned (.bool (Xa 1 l))/\Ext w w':=by
 have H:=Qq h;have HW:=Qq hw;have HCK:=Qq hck;have HP:=Qq (Qn3 l);obtain⟨A,c,rfl,_⟩:=h;obtain⟨pb,hpb⟩:∃b,b=(l.any fun s=>decide (0=s)):=⟨_,rfl⟩;have HCO:=Qq (fun w h=>Qyi 0 (.slice A l.length c) l w h);rw [<-hpb]at HP HCO;have HX0:=Qq (show Ext w ((w.alloc (.cells #[.slice A l.length c] 25)).alloc (.cells #[.bool false] 4))from(Qz.alloc _).alloc _);have HB0:=Qq ((Boxed.new w 25 (.slice A l.length c)).alloc (.cells #[.bool false] 4));have HB1:=Qq (show Boxed ((w.alloc (.cells #[.slice A l.length c] 25)).alloc (.cells #[.bool false] 4)) (w.heap.size+1) 4 (.bool false) by
  have:=Boxed.new (w.alloc (.cells #[.slice A l.length c] 25)) 4 (.bool false);rw [World.size_alloc]at this;exact this)
 clear hw hck hpb;go_enter Tryz.func50,Tryz.ntmps50;go_upto_region 1 with(fail);go_wp2_with(first|(go_at_call 47;refine(Xx _ l _ (H.out.ext HX0.out) HW.out).mono ?_;rintro e w2 ⟨rfl,hx2⟩;rw [HCK.out];have hb2:Boxed w2 w.heap.size 25 (.slice A l.length c):=(hx2.block HB0.out.lt).trans HB0.out;have hb3:Boxed w2 (w.heap.size+1) 4 (.bool false):=(hx2.block HB1.out.lt).trans HB1.out;have HX2:=Qq (HX0.out.trans hx2);have c2:=hb2.cell;have c3:=hb3.cell;have f3:=hb3.frozen;have HB2:=Qq hb2;have HB3:=Qq hb3;clear hx2 hb2 hb3)|(go_at_call 76;refine(HCO.out _ (H.out.ext HX2.out)).mono ?_;rintro e w4 ⟨rfl,hx4⟩;have HB4:=Qq (show Boxed w4 (w.heap.size+1) 4 (.bool false)from(hx4.block HB3.out.lt).trans HB3.out);have HX4:=Qq (HX2.out.trans hx4);have c4:=HB4.out.cell;have f4:=HB4.out.frozen;clear hx4))
 refine bodyPost_ret (Fj Tryz.results50 _ _ rfl (HB4.out.set _).cell Tryz.underlying4 rfl) rfl ?_;exact⟨by rw [HP.out] <;> rfl,HX4.out.setCell (p:=⟨w.heap.size+1,0,none⟩) (by show w.heap.size<=w.heap.size+1;omega) _⟩
theorem Qv1 {s:Nat}(hs:Qi s)(k:Nat):(bits .and .u64 ((s:Int) / 2^k) 1==0)= !s.testBit k:=by
 have e:((s:Int) / 2^k)=((s / 2^k:Nat):Int):=by rw [Int.natCast_ediv,Int.natCast_pow];rfl
 rw [e,show(1:Int)=((1:Nat):Int)from rfl,Sp (Nat.lt_of_le_of_lt (Nat.div_le_self _ _) hs) (by show(1:Nat) < _;omega),Nat.and_one_is_mod,Nat.testBit_eq_decide_div_mod_eq];generalize s / 2^k=r;rw [Bool.eq_iff_iff,beq_iff_eq,Bool.not_eq_true',decide_eq_false_iff_not];omega
theorem Qyg(l:List Nat):Xa 2 l=true↔∀i,i < l.length->(l.getD i 0).testBit i=true:=by
 rw [Ml];unfold Rc;rw [if_neg (by decide),if_pos rfl];exact Iff.rfl
theorem Pf {q:Int} {l:List Nat}(h:¬Xa q l=true):Xa q l=false:=by
 cases e:Xa q l
 ·rfl
 exact absurd e h
theorem Ql8(v:Value)(l:List Nat)(w:World)(h:Yi w v l)(hw:∀s∈l,Qi s)(hck:Yj l.length l=0):
 Calls Tryz.prog 50 #[v,.int .i64 2] w fun e w'=>e=.returned (.bool (Xa 2 l))/\Ext w w':=by
 have H:=Qq h;have HW:=Qq hw;have HCK:=Qq hck;have hl64:=Bs hck;obtain⟨A,c,rfl,_,_,HA⟩:=Fl h;have HX0:=Qq (show Ext w ((w.alloc (.cells #[.slice A l.length c] 25)).alloc (.cells #[.bool false] 4))from(Qz.alloc _).alloc _);have HB0:=Qq ((Boxed.new w 25 (.slice A l.length c)).alloc (.cells #[.bool false] 4));have HB1:=Qq (show Boxed ((w.alloc (.cells #[.slice A l.length c] 25)).alloc (.cells #[.bool false] 4)) (w.heap.size+1) 4 (.bool false) by
  have:=Boxed.new (w.alloc (.cells #[.slice A l.length c] 25)) 4 (.bool false);rw [World.size_alloc]at this;exact this)
 clear hw hck h;go_enter Tryz.func50,Tryz.ntmps50;go_wp2_with(go_at_call 47;refine(Xx _ l _ (H.out.ext HX0.out) HW.out).mono ?_;rintro e w2 ⟨rfl,hx2⟩;rw [HCK.out];have hb2:Boxed w2 w.heap.size 25 (.slice A l.length c):=(hx2.block HB0.out.lt).trans HB0.out;have hb3:Boxed w2 (w.heap.size+1) 4 (.bool false):=(hx2.block HB1.out.lt).trans HB1.out;have HX2:=Qq (HX0.out.trans hx2);have c2:=hb2.cell;have c3:=hb3.cell;have f3:=hb3.frozen;have HB2:=Qq hb2;have HB3:=Qq hb3;clear hx2 hb2 hb3);go_loopw [24] (fun vi wr=>∃k:Nat,vi=.int .i64 (k:Int)/\k<=l.length/\Hid (wr=w2/\∀i,i < k->(l.getD i 0).testBit i=true)) (fun v _=>l.length - (intOf v).toNat)
 case atStart=>exact⟨0,rfl,Nat.zero_le _,Qq ⟨rfl,fun i hi=>absurd hi (Nat.not_lt_zero _)⟩⟩
 case round =>
  obtain⟨k,rfl,hk,HR⟩:=hrel;obtain rfl:=HR.out.1;by_cases hlt2:k < l.length
  ·have hk1:(k:Int) < (l.length:Int):=by omega
   have hmin2:min k 64=k:=by omega
   obtain⟨ad,rfl,hadl,hcl⟩:=HA.out k hlt2;have a0:=(HX2.out.cell (p:=ad.add k) (Qj hadl)).trans hcl;have HWK:=Qq (Uw HW.out k);have hbt:=Qv1 HWK.out k;obtain⟨t,ht⟩:∃t,t=(l.getD k 0).testBit k:=⟨_,rfl⟩;have HT:=Qq ht;obtain⟨z,hz⟩:∃z,z=l.getD k 0:=⟨_,rfl⟩;rw [<-ht,<-hz]at hbt;rw [<-hz]at a0;clear ht hz hcl;cases t
   ·have HE:=Qq (Pf fun h=>by have:=(Qyg l).1 h k hlt2;rw [<-HT.out]at this;cases this);go_wp2_with fail;refine bodyPost_ret (Fj Tryz.results50 _ _ rfl (HB3.out.set _).cell Tryz.underlying4 rfl) rfl ?_;exact⟨by rw [HE.out] <;> rfl,HX2.out.setCell (p:=⟨w.heap.size+1,0,none⟩) (by show w.heap.size<=w.heap.size+1;omega) _⟩
   have HN:=Qq (show ∀i,i < k+1->(l.getD i 0).testBit i=true from fun i hi=>by
    by_cases e:i < k
    ·exact HR.out.2 i e
    obtain rfl:i=k:=by omega
    exact HT.out.symm)
   go_wp2_with fail;go_roundw
   case rel=>exact⟨k+1,by go_num,by omega,Qq ⟨trivial,HN.out⟩⟩
   case measure=>simp [intOf];omega
  obtain rfl:l.length=k:=by omega
  have HE:=Qq ((Qyg l).2 HR.out.2);go_wp2_with fail;refine bodyPost_ret (Fj Tryz.results50 _ _ rfl (HB3.out.set _).cell Tryz.underlying4 rfl) rfl ?_;exact⟨by rw [HE.out] <;> rfl,HX2.out.setCell (p:=⟨w.heap.size+1,0,none⟩) (by show w.heap.size<=w.heap.size+1;omega) _⟩
def trB(l:List Nat)(k:Nat):Bool:=Yd (orL l (Bh (l.getD k 0))) (l.getD k 0)
theorem Qry {l:List Nat}(hw:∀s∈l,Qi s)(hb:∀k,k < l.length->∀i,(l.getD k 0).testBit i=true->i < l.length):Xa 4 l=true↔∀k,k < l.length->trB l k=true:=by
 rw [Ml];unfold Rc;rw [if_neg (by decide),if_neg (by decide),if_pos rfl];unfold Np trB;constructor
 ·intro h k hk;rw [Kb];intro i hi;rw [Hp,List.any_eq_true]at hi;obtain⟨x,hx,hxi⟩:=hi;have hx2:=(Ll.1 hx).2;exact Kb.1 (h k x hk (hb k hk x hx2) hx2) i hxi
 intro h k x hk hx hkx;rw [Kb];intro i hi;refine Kb.1 (h k hk) i ?_;rw [Hp,List.any_eq_true];exact⟨x,Ll.2 ⟨Ir (Uw hw k) hkx,hkx⟩,hi⟩
theorem Ww {l:List Nat}(hck:Yj l.length l=0) {k:Nat}(hk:k < l.length) {i:Nat}(hi:(l.getD k 0).testBit i=true):i < l.length:=by
 have h1:=(Ni.1 (show Na l=true by unfold Na;rw [hck];rfl)).2;unfold Jd at h1;rw [List.any_eq_false]at h1;have h2:=h1 (l.getD k 0) (by rw [Qk,Qv hk];exact List.getElem_mem _);rcases Nat.lt_or_ge i l.length with h3|h3
 ·exact h3
 have h4:l.getD k 0 < 2^l.length:=by simpa using h2
 rw [Nat.testBit_lt_two_pow (Qy h4 (Nat.pow_le_pow_right (by decide) h3))]at hi;cases hi
theorem Qt7(v:Value)(l:List Nat)(w:World)(hT:Kx w)(h:Yi w v l)(hw:∀s∈l,Qi s)(hck:Yj l.length l=0):
 Calls Tryz.prog 50 #[v,.int .i64 4] w fun e w'=>e=.returned (.bool (Xa 4 l))/\Ext w w':=by
 have H:=Qq h;have HW:=Qq hw;have HCK:=Qq hck;have HTZ:=Qq hT;have HPR:=Qq (Qry hw (fun k hk i hi=>Ww hck hk hi));have hl64:=Bs hck;obtain⟨A,c,rfl,_,_,HA⟩:=Fl h;have HX0:=Qq (show Ext w ((w.alloc (.cells #[.slice A l.length c] 25)).alloc (.cells #[.bool false] 4))from(Qz.alloc _).alloc _);have HB0:=Qq ((Boxed.new w 25 (.slice A l.length c)).alloc (.cells #[.bool false] 4));have HB1:=Qq (show Boxed ((w.alloc (.cells #[.slice A l.length c] 25)).alloc (.cells #[.bool false] 4)) (w.heap.size+1) 4 (.bool false) by
  have:=Boxed.new (w.alloc (.cells #[.slice A l.length c] 25)) 4 (.bool false);rw [World.size_alloc]at this;exact this)
 clear hw hck h hT;go_enter Tryz.func50,Tryz.ntmps50;go_wp2_with(go_at_call 47;refine(Xx _ l _ (H.out.ext HX0.out) HW.out).mono ?_;rintro e w2 ⟨rfl,hx2⟩;rw [HCK.out];have hb2:Boxed w2 w.heap.size 25 (.slice A l.length c):=(hx2.block HB0.out.lt).trans HB0.out;have hb3:Boxed w2 (w.heap.size+1) 4 (.bool false):=(hx2.block HB1.out.lt).trans HB1.out;have HX2:=Qq (HX0.out.trans hx2);have c2:=hb2.cell;have HB2:=Qq hb2;have HB3:=Qq hb3;clear hx2 hb2 hb3);go_loopw [46] (fun vi wr=>∃k:Nat,vi=.int .i64 (k:Int)/\k<=l.length/\Hid (Ext w2 wr/\∀i,i < k->trB l i=true)) (fun v _=>l.length - (intOf v).toNat)
 case atStart=>exact⟨0,rfl,Nat.zero_le _,Qq ⟨Qz,fun i hi=>absurd hi (Nat.not_lt_zero _)⟩⟩
 case round =>
  obtain⟨k,rfl,hk,HR⟩:=hrel;have hb2:Boxed wr w.heap.size 25 (.slice A l.length c):=(HR.out.1.block HB2.out.lt).trans HB2.out;have hb3:Boxed wr (w.heap.size+1) 4 (.bool false):=(HR.out.1.block HB3.out.lt).trans HB3.out;have HXW:=Qq (HX2.out.trans HR.out.1);have HB2W:=Qq hb2;have HB3W:=Qq hb3;by_cases hlt2:k < l.length
  ·have hk1:(k:Int) < (l.length:Int):=by omega
   obtain⟨ad,rfl,hadl,hcl⟩:=HA.out k hlt2;have a0:=(HXW.out.cell (p:=ad.add k) (Qj hadl)).trans hcl;have al:(ad.add k).block < wr.heap.size:=by rw [Qn];exact Qy hadl HXW.out.size
   have c0:=hb2.cell;have cl:=hb2.lt;have HWK:=Qq (Uw HW.out k);obtain⟨t,ht⟩:∃t,t=trB l k:=⟨_,rfl⟩;have HT:=Qq ht;obtain⟨z,hz⟩:∃z,z=l.getD k 0:=⟨_,rfl⟩;have HIN:=Qq (show ∀i,z.testBit i=true->i < l.length by rw [hz];exact fun i hi=>Ww HCK.out hlt2 hi);obtain⟨o,ho⟩:∃o,o=orL l (Bh z):=⟨_,rfl⟩;have HOW:=Qq (show Qi o by rw [ho];exact Qkk HW.out _);have HDIF:Hid ((((Yq o z:Nat):Int)==0)=t):=Qq (by
    rw [ht,show(((Yq o z:Nat):Int)==0)=(Yq o z==0) by rw [Bool.eq_iff_iff,beq_iff_eq,beq_iff_eq];omega,Hy,ho,hz]
    rfl)
   rw [<-hz]at a0 HWK;have hdf:=Xe HOW.out HWK.out;have HMP:=Qq (fun w hT h=>Qdv (.slice (some ad) l.length c) l z w h HW.out HWK.out HIN.out hT);rw [<-ho]at HMP;obtain⟨d,hd⟩:∃d,d=Yq o z:=⟨_,rfl⟩;rw [<-hd]at hdf HDIF;clear ht hz hcl ho hd hb2 hb3;go_upto_region 20 with(fail);refine wp_region_held_drew (S:=fun w'=>w'.cell? (⟨w.heap.size,0,none⟩)=some (.slice (some ad) l.length c)/\w'.cell? (ad.add k)=some (.int .u64 (z:Int))) (by kernel_rfl) ⟨(Ext.cell (p:=⟨w.heap.size,0,none⟩) (by repeat(first|exact Qz|assumption|apply Ext.alloc|apply Ext.drew)) cl).trans c0,(Ext.cell (p:=ad.add k) (by repeat(first|exact Qz|assumption|apply Ext.alloc|apply Ext.drew)) al).trans a0⟩ (fun hHeld=> ?_)
   refine' wpAnyH_take (i:=0) (v:=_) rfl (by kernel_rfl) (by kernel_rfl) (by kernel_rfl) (fun _ _ _ h=>h) (Or.inl ⟨by rfl,?hybw10⟩) hHeld ?restbw10
   case hybw10=>(intro w' hSw;(try dsimp only at hSw);go_simp;(try with_reducible rfl))
   refine Qd ?_;refine' wpAnyH_take (i:=1) (v:=_) rfl (by kernel_rfl) (by kernel_rfl) (by kernel_rfl) (fun _ _ _ h=>h) (Or.inl ⟨by rfl,?hybw11⟩) hHeld ?restbw11
   case hybw11=>(intro w' hSw;(try dsimp only at hSw);go_simp;(try with_reducible rfl))
   refine Qd ?_;refine' wpAnyH_take (i:=2) (v:=_) rfl (by kernel_rfl) (by kernel_rfl) (by kernel_rfl) (fun _ _ _ h=>h) (Or.inl ⟨by rfl,?hybw12⟩) hHeld ?restbw12
   case hybw12=>(intro w' hSw;(try dsimp only at hSw);go_simp;(try with_reducible rfl))
   refine Qd ?_;refine' wpAnyH_take (i:=3) (v:=_) rfl (by kernel_rfl) (by kernel_rfl) (by kernel_rfl) (fun _ _ _ h=>h) (Or.inl ⟨by rfl,?hybw13⟩) hHeld ?restbw13
   case hybw13=>(intro w' hSw;(try dsimp only at hSw);go_simp;(try with_reducible rfl))
   refine Qd ?_;refine' wpAnyH_take (i:=4) (v:=_) rfl (by kernel_rfl) (by kernel_rfl) (by kernel_rfl) (fun _ _ _ h=>h) (Or.inl ⟨by rfl,?hybw14⟩) hHeld ?restbw14
   case hybw14=>(intro w' hSw;(try dsimp only at hSw);go_simp;(try with_reducible rfl))
   refine Qd ?_;refine' wpAnyH_take (i:=6) (v:=_) rfl (by kernel_rfl) (by kernel_rfl) (by kernel_rfl) (fun _ _ _ h=>h) (Or.inl ⟨by rfl,?hybw16⟩) hHeld ?restbw16
   case hybw16=>(intro w' hSw;(try dsimp only at hSw);go_simp;(try with_reducible rfl))
   refine Qd ?_;refine' wpAnyH_take (i:=7) (v:=_) rfl (by kernel_rfl) (by kernel_rfl) (by kernel_rfl) (fun _ _ _ h=>h) (Or.inl ⟨by rfl,?hybw17⟩) hHeld ?restbw17
   case hybw17=>(intro w' hSw;(try dsimp only at hSw);go_simp;(try with_reducible rfl))
   refine Qd ?_;refine' wpAnyH_take (i:=8) (v:=_) rfl (by kernel_rfl) (by kernel_rfl) (by kernel_rfl) (fun _ _ _ h=>h) (Or.inl ⟨by rfl,?hybw18⟩) hHeld ?restbw18
   case hybw18=>(intro w' hSw;(try dsimp only at hSw);go_simp;(try with_reducible rfl))
   refine Qd ?_;refine' wpAnyH_take (i:=9) (v:=_) rfl (by kernel_rfl) (by kernel_rfl) (by kernel_rfl) (fun _ _ _ h=>h) (Or.inl ⟨by rfl,?hybw19⟩) hHeld ?restbw19
   case hybw19=>(intro w' hSw;(try dsimp only at hSw);go_simp;(try with_reducible rfl))
   refine Qd ?_;refine wpAnyH_ready (rs:= [5]) (by kernel_rfl) (by simp) ?_;refine AllReadyH.cons rfl (fun K hK=> ?_) AllReadyH.nil;go_simp;refine(HMP.out _ (HTZ.out.ext (HXW.out.trans (by repeat(first|exact Qz|assumption|apply Ext.alloc|apply Ext.drew)))) (H.out.ext (HXW.out.trans (by repeat(first|exact Qz|assumption|apply Ext.alloc|apply Ext.drew))))).mono ?_;rintro e w5 ⟨rfl,hx5⟩;have HX5:=Qq (show Ext wr w5 from(Ext.refl wr).drew.trans hx5);go_wp2_with fail;refine hK.out _ _ ⟨(Ext.cell (p:=⟨w.heap.size,0,none⟩) (by repeat(first|exact Qz|assumption|apply Ext.alloc|apply Ext.drew)) cl).trans c0,(Ext.cell (p:=ad.add k) (by repeat(first|exact Qz|assumption|apply Ext.alloc|apply Ext.drew)) al).trans a0⟩ (fun hHeld=> ?_)
   clear hK K;refine Qd ?_;refine' wpAnyH_take (i:=10) (v:=_) rfl (by kernel_rfl) (by kernel_rfl) (by kernel_rfl) (fun _ _ _ h=>h) (Or.inl ⟨by rfl,?hybw110⟩) hHeld ?restbw110
   case hybw110=>(intro w' hSw;(try dsimp only at hSw);go_simp;(try with_reducible rfl))
   refine Qd ?_;refine' wpAnyH_take (i:=11) (v:=_) rfl (by kernel_rfl) (by kernel_rfl) (by kernel_rfl) (fun _ _ _ h=>h) (Or.inl ⟨by rfl,?hybw111⟩) hHeld ?restbw111
   case hybw111=>(intro w' hSw;(try dsimp only at hSw);go_simp;(try with_reducible rfl))
   refine Qd ?_;refine wpAnyH_done (by kernel_rfl) ?_ _;have hb5:Boxed w5 (w.heap.size+1) 4 (.bool false):=(HX5.out.block HB3W.out.lt).trans HB3W.out;have HB5:=Qq hb5;have c5:=hb5.cell;have f5:=hb5.frozen;have HXE:=Qq (HXW.out.trans HX5.out);clear hb5;cases t
   ·have hdd:((d:Int)==0)=false:=HDIF.out;have hde:((d:Int) !=0)=true:=by simpa using hdd
    have HE:=Qq (Pf fun h=>by have:=HPR.out.1 h k hlt2;rw [<-HT.out]at this;cases this);go_wp2_with fail;refine bodyPost_ret (Fj Tryz.results50 _ _ rfl (HB5.out.set _).cell Tryz.underlying4 rfl) rfl ?_;exact⟨by rw [HE.out] <;> rfl,HXE.out.setCell (p:=⟨w.heap.size+1,0,none⟩) (by show w.heap.size<=w.heap.size+1;omega) _⟩
   have hdd:((d:Int)==0)=true:=HDIF.out;have hde:((d:Int) !=0)=false:=by simpa using hdd
   have HN:=Qq (show ∀i,i < k+1->trB l i=true from fun i hi=>by
    by_cases e:i < k
    ·exact HR.out.2 i e
    obtain rfl:i=k:=by omega
    exact HT.out.symm)
   have HRX:=Qq (HR.out.1.trans HX5.out);go_wp2_with fail;go_roundw
   case rel=>exact⟨k+1,by go_num,by omega,Qq ⟨HRX.out,HN.out⟩⟩
   case measure=>simp [intOf];omega
  obtain rfl:l.length=k:=by omega
  have c0:=hb3.cell;have f0:=hb3.frozen;have HE:=Qq (HPR.out.2 HR.out.2);go_wp2_with fail;refine bodyPost_ret (Fj Tryz.results50 _ _ rfl (HB3W.out.set _).cell Tryz.underlying4 rfl) rfl ?_;exact⟨by rw [HE.out] <;> rfl,HXW.out.setCell (p:=⟨w.heap.size+1,0,none⟩) (by show w.heap.size<=w.heap.size+1;omega) _⟩
section
variable {P:Program} {n l:Nat} {ops:Array Oper} {Q:Exit->Act->World->Prop} {md:Region.Mode}
theorem Qlb {o:Oper} {a:Act} {w:World} {K:Act->World->Prop}(hd:∀c,o.op≠.defer c)(h:o.wp P a w K Q):o.wpIn (Fence.wide.inRound l) n P a w K Q:=by
 refine⟨fun _ _=>trivial,?_⟩;unfold Oper.wp at h;rw [show(Fence.wide.inRound l).round=some l from rfl,Oper.semAt_some l a.eval o hd];generalize (execOp a.eval o).run P w=r at *;cases r with
 |ok x w' =>
  cases x with
  |value v=>exact h
  |skip=>exact h
  |defer d=>exact h
  |enter f args=>exact⟨fun e=>(by cases e),CallsIn.inRound l (callsIn_wide.2 h)⟩
  |row row args=>exact⟨fun e=>(by cases e),fun c cs _=>let ⟨v,w',r,s⟩:=h c cs;⟨v,w',r,stepsIn_wide.2 s⟩⟩
  |_=>exact h.elim
 |halt x w'=>cases x <;> exact h
theorem Mi(hnd:∀(i:Nat) (o:Oper),ops[i]?=some o->∀c,o.op≠.defer c)(hQ:¬LetsOut Q):∀(fuel:Nat) (listed:Array Bool) (a:Act) (w:World),wpAny P md ops Q fuel listed a w->wpAnyIn (Fence.wide.inRound l) n P md ops Q fuel listed a w
 |0,_,_,_,h=>h
 |fuel+1,listed,a,w,h=>⟨h.1,fun i hi=>by
  have h2:=h.2 i hi;unfold wpOp at h2;unfold wpOpIn;cases ho:ops[i]? with
  |none=>rw [ho]at h2;exact Mi hnd hQ fuel _ _ _ h2
  |some o =>
   rw [ho]at h2;simp only at h2⊢
   split
   ·rename_i hw;rw [if_pos hw]at h2;rcases h2 with h3|⟨_,h3⟩
    ·exact Oper.wpIn_mono (fun a' w' h4=>Mi hnd hQ fuel _ _ _ h4) (Qlb (hnd i o ho) h3)
    exact absurd h3 hQ
   rename_i hw;rw [if_neg hw]at h2;exact⟨fun _ _=>trivial,Mi hnd hQ fuel _ _ _ h2⟩⟩
def Qg9(ops:Array Oper):Bool:=ops.all fun o=>match o.op with| .defer _=>false|_=>true
theorem Aw {S:World->Prop} {id:Nat} {a:Act} {w:World}(hm:P.follows .mixedOrders=true)(hnd:Qg9 ops=true)(hQ:¬LetsOut Q)(hS:S w.drew)
 (h:S w.drew->wpAnyH P .any ops Q S ops.size (Array.replicate ops.size false) a w.drew):(Code.region id ops true).wpIn (Fence.wide.inRound l) n P Q a w:=by
 refine wpIn_region_any hm (Mi (fun i o ho c hc=> ?_) hQ _ _ _ _ (wpAny_of_held _ _ _ _ (h hS)));unfold Qg9 at hnd;rw [Array.all_eq_true']at hnd;have:=hnd o (Array.mem_of_getElem? ho);rw [hc]at this;cases this
end
end Go.Proofs.YtmidgcldljfkcaaGreatDoor
