/- slices.Index and Contains at words. -/
import Derived.Test.YtkmclcmnoicagaaGreatDoorK11
import Derived.Test.YtkmclcmnoicagaaGreatDoorK12
namespace Go.Proofs.YtkmclcmnoicagaaGreatDoor
set_option maxRecDepth 100000
set_option maxHeartbeats 128000000
open Go.RowKit
theorem Qlf(x:Nat)(v:Value)(l:List Nat)(w:World)(h:Jb w v l):
 Calls Tryz.prog 218 #[v,.int .u64 (x:Int)] w fun e w'=>e=.returned (.int .i64 (Ny (fun s=>decide (x=s)) l))/\Ext w w':=by
 obtain⟨A,c,rfl,xR,yO,HR⟩:=Vp h;unfold maxLen at yO;clear h;go_enter Tryz.func218,Tryz.ntmps218;go_wp2_with fail;go_loopw [5,8] (fun _ i wr=>∃k:Nat,k<=l.length/\i=.int .i64 (k:Int)/\Hid (∀t∈l.take k,decide (x=t)=false)/\Hid (Ext w wr)) (fun _ i _=>l.length - (intOf i).toNat)
 case atStart=>exact⟨0,Nat.zero_le _,rfl,Qq (by simp),Qq Qz⟩
 case round =>
  obtain⟨k,hk,rfl,tY,HX⟩:=hrel;by_cases hlt2:k < l.length
  ·obtain⟨s,hs⟩:∃s,l[k]?=some s:=⟨_,Qv hlt2⟩;obtain⟨ad,rfl,yT,xS⟩:=HR.out k hlt2;rw [Qk,hs,Option.getD_some]at xS;have a0:wr.cell? (ad.add k)=some (.int .u64 (s:Int)):=(HX.out.cell (p:=ad.add k) (Qj yT)).trans xS;clear xS;have HA:=Qq hs;have yP:(k:Int) < (l.length:Int):=by omega
   clear hs;by_cases vP:x=s
   ·have UQ:((x:Int)==(s:Int))=true:=by simp [vP]
    have HE:=Qq (Hm (p:=fun s=>decide (x=s)) HA.out (decide_eq_true vP) tY.out);clear vP;go_wp2_with fail;go_ret;exact⟨by rw [HE.out] <;> rfl,HX.out⟩
   have UQ:((x:Int)==(s:Int))=false:=by simp only [beq_eq_false_iff_ne,ne_eq,Int.natCast_inj];exact vP
   have HT:Hid (∀t∈l.take (k+1),decide (x=t)=false):=Qq (by
    rw [Pw HA.out];intro t ht;rcases List.mem_append.1 ht with ht|ht
    ·exact tY.out t ht
    rw [List.mem_singleton.1 ht];exact decide_eq_false vP)
   clear vP;go_wp2_with fail;go_roundw
   case rel=>exact⟨k+1,by omega,by go_num,HT,HX⟩
   case measure=>simp [intOf];omega
  obtain rfl:l.length=k:=by omega
  have HE:=Qq (Th (p:=fun s=>decide (x=s)) (l:=l) (fun t ht=>tY.out t (by rw [List.take_of_length_le (Nat.le_refl _)];exact ht)));go_wp2_with fail;go_ret;exact⟨by rw [HE.out] <;> rfl,HX.out⟩
theorem Qfh(x:Nat)(v:Value)(l:List Nat)(w:World)(h:Jb w v l):
 Calls Tryz.prog 199 #[v,.int .u64 (x:Int)] w fun e w'=>e=.returned (.bool (l.any fun s=>decide (x=s)))/\Ext w w':=by
 have HI:=Qq (Qlf x v l w h);have HE:=Qq (Hl (fun s=>decide (x=s)) l);clear h;obtain⟨z,hz⟩:∃z,z=Ny (fun s=>decide (x=s)) l:=⟨_,rfl⟩;rw [<-hz]at HI HE;clear hz;go_enter Tryz.func199,Tryz.ntmps199;go_wp2_with(refine HI.out.mono ?_;rintro e w1 ⟨rfl,hx⟩);go_ret;exact⟨by rw [<-HE.out] <;> rfl,hx⟩
def Nq(r:List Nat)(s:Nat):Nat:=if Jw r.length r=0 then Vd r r.length s else 0
theorem Dt {r:List Nat}(h:Jw r.length r=0):r.length<=64:=by
 unfold Jw at h;split at h
 ·cases h
 omega
theorem Ll(v:Value)(r:List Nat)(s:Nat)(w:World)(h:Jb w v r)(hw:∀s∈r,Qp s)(hs:Qp s):
 Calls Tryz.prog 186 #[v,.int .u64 (s:Int)] w fun e w'=>e=.returned (.int .u64 ((Nq r s:Nat):Int))/\Ext w w':=by
 have H:=Qq h;obtain⟨A,c,rfl,_,_,HL⟩:=Vp h;have sM:=Qq hw;have HS:=Qq hs;clear h hw hs;by_cases zT:Jw r.length r=0
 ·have hn:=Dt zT;have HC:=Qq zT;have HB:=Qq (show Nq r s=Vd r r.length s by unfold Nq;rw [if_pos HC.out]);clear zT;obtain⟨n,zQ⟩:∃n,n=r.length:=⟨_,rfl⟩;have HN:=Qq zQ;go_enter Tryz.func186,Tryz.ntmps186;clear zQ;go_upto_region 1 with(fail);go_wp2_with(go_at_call 113;refine(Gx _ r _ H.out sM.out).mono ?_;rintro e w1 ⟨rfl,zN⟩;rw [HC.out];have zL:=Qq zN;clear zN);rw [<-HN.out];go_loopw [5,14] (fun vo vi wr=>∃k:Nat,vi=.int .i64 (k:Int)/\k<=n/\vo=.int .u64 ((Vt k (fun i=>Js (r.getD i 0) s):Nat):Int)/\Hid (Ext w wr)) (fun _ v _=>n - (intOf v).toNat)
  case atStart=>exact⟨0,rfl,Nat.zero_le _,rfl,Qq zL.out⟩
  case round =>
   obtain⟨k,rfl,hk,rfl,HX⟩:=hrel;obtain⟨m,hm⟩:∃m,m=Vt k (fun i=>Js (r.getD i 0) s):=⟨_,rfl⟩;have HM:=Qq hm;rw [<-hm];clear hm;by_cases hlt2:k < n
   ·have yP:(k:Int) < (n:Int):=by omega
    have wM:(k:Int) < (r.length:Int):=by rw [<-HN.out];exact yP
    have vF:k < 64:=by omega
    have wD:min k 64=k:=by omega
    obtain⟨ad,rfl,zU,hc⟩:=HL.out k (by rw [<-HN.out];exact hlt2);have a0:=(HX.out.cell (p:=ad.add k) (Qj zU)).trans hc;have al:(ad.add k).block < wr.heap.size:=by rw [Qr];exact Qy zU HX.out.size
    have hz:=Em (Yr sM.out k) HS.out;have iP:=Qq (Bl k (fun i=>Js (r.getD i 0) s));have bJ:=Qq (Wx (s:=m) (k:=k) (by rw [HM.out];exact Fp (by omega) _) vF);obtain⟨x,hx⟩:∃x,x=r.getD k 0:=⟨_,rfl⟩;rw [<-hx]at a0 hz;have oV:=Qq hx;clear hc hx;cases hd:Js x s
    ·rw [hd]at hz;have HP:=Qq (show Vt (k+1) (fun i=>Js (r.getD i 0) s)=m by rw [iP.out,<-oV.out,hd,HM.out];rfl);clear hd;go_wp2_with fail;go_roundw
     case rel=>exact⟨k+1,by go_num,by omega,by rw [HP.out],HX⟩
     case measure=>simp [intOf];omega
    rw [hd]at hz;have HP:=Qq (show Vt (k+1) (fun i=>Js (r.getD i 0) s)=m|||2^k by rw [iP.out,<-oV.out,hd,HM.out];rfl);have uL:=bJ.out;clear hd;obtain⟨m2,xM⟩:∃m2,m2=m|||2^k:=⟨_,rfl⟩;rw [<-xM]at HP uL;clear xM;go_wp2_with fail;go_roundw
    case rel=>exact⟨k+1,by go_num,by omega,by rw [HP.out],HX⟩
    case measure=>simp [intOf];omega
   obtain rfl:n=k:=by omega
   go_wp2_with fail;go_ret;exact⟨by rw [HB.out,<-HN.out,show Vd r n s=m from HM.out.symm] <;> rfl,HX.out⟩
 have HC:=Qq zT;have HB:=Qq (show Nq r s=0 by unfold Nq;rw [if_neg HC.out]);obtain⟨ce,cQ⟩:∃z,z=Jw r.length r:=⟨_,rfl⟩;rw [<-cQ]at zT;have zQ:(ce !=0)=true:=by simpa using zT
 have JE:=Qq cQ;clear zT cQ;go_enter Tryz.func186,Tryz.ntmps186;go_wp2_with(go_at_call 113;refine(Gx _ r _ H.out sM.out).mono ?_;rintro e w1 ⟨rfl,zN⟩;rw [<-JE.out];have zL:=Qq zN;clear zN);go_ret;exact⟨by rw [HB.out] <;> rfl,zL.out⟩
theorem Bq {P:Program} {fn:Func} {t:Tmp} {ty:TypeId}(h:fn.results=#[.cell t ty])(tmps:Array Value)(w:World) {a:Addr} {v:Value} {d:TypeDesc}(ht:tmps.getD t undef=.pointer (some a))(hc:w.cell? a=some v)
 (hu:P.underlying ty=some d)(hd:(match d with| .struct _| .array _ _=>true|_=>false)=false):(results fn tmps).run P w=.ok v w:=by
 have mI:tmps[t]?.getD undef=.pointer (some a):=by simpa using ht
 have ER:(isAgg ty).run P w=.ok false w:=by
  unfold isAgg;rw [Sem.run_bind,run_underlying hu w];cases d <;> simp_all
 simp [results,h,mI,asAddr,loadVar,Sem.run_bind,ER,hc]
open Classical in
noncomputable def Uj (q:Int) (l:List Nat):Bool:=decide (Kz q l)
theorem Eq {q:Int} {l:List Nat} :Uj q l=true↔Kz q l:=by
 unfold Uj;exact @decide_eq_true_iff _ (Classical.propDecidable _)
theorem Qcw(l:List Nat):Uj 1 l= !(l.any fun s=>decide (0=s)):=by
 rw [Bool.eq_iff_iff,Eq,Bool.not_eq_true',List.any_eq_false];unfold Kz;rw [if_pos rfl];constructor
 ·intro h s hs e;obtain⟨i,hi,rfl⟩:=List.getElem_of_mem hs;have:=h i hi;rw [Qk,Qv hi]at this;exact this (of_decide_eq_true e).symm
 intro h i hi e;rw [Qk,Qv hi]at e;exact h _ (List.getElem_mem hi) (decide_eq_true e.symm)
theorem Qap(v:Value)(l:List Nat)(w:World)(h:Jb w v l)(hw:∀s∈l,Qp s)(zT:Jw l.length l=0):
 Calls Tryz.prog 166 #[v,.int .i64 1] w fun e w'=>e=.returned (.bool (Uj 1 l))/\Ext w w':=by
 have H:=Qq h;have HW:=Qq hw;have xV:=Qq zT;have HP:=Qq (Qcw l);obtain⟨A,c,rfl,_⟩:=h;obtain⟨pb,rB⟩:∃b,b=(l.any fun s=>decide (0=s)):=⟨_,rfl⟩;have jY:=Qq (fun w h=>Qfh 0 (.slice A l.length c) l w h);rw [<-rB]at HP jY;have zK:=Qq (show Ext w ((w.alloc (.cells #[.slice A l.length c] 23)).alloc (.cells #[.bool false] 4))from(Qz.alloc _).alloc _);have vV:=Qq ((Boxed.new w 23 (.slice A l.length c)).alloc (.cells #[.bool false] 4));have wJ:=Qq (show Boxed ((w.alloc (.cells #[.slice A l.length c] 23)).alloc (.cells #[.bool false] 4)) (w.heap.size+1) 4 (.bool false) by
  have:=Boxed.new (w.alloc (.cells #[.slice A l.length c] 23)) 4 (.bool false);rw [World.size_alloc]at this;exact this)
 clear hw zT rB;go_enter Tryz.func166,Tryz.ntmps166;go_upto_region 1 with(fail);go_wp2_with(first|(go_at_call 113;refine(Gx _ l _ (H.out.ext zK.out) HW.out).mono ?_;rintro e w2 ⟨rfl,zS⟩;rw [xV.out];have wZ:Boxed w2 w.heap.size 23 (.slice A l.length c):=(zS.block vV.out.lt).trans vV.out;have uZ:Boxed w2 (w.heap.size+1) 4 (.bool false):=(zS.block wJ.out.lt).trans wJ.out;have zR:=Qq (zK.out.trans zS);have c2:=wZ.cell;have c3:=uZ.cell;have f3:=uZ.frozen;have rV:=Qq wZ;have qB:=Qq uZ;clear zS wZ uZ)|(go_at_call 199;refine(jY.out _ (H.out.ext zR.out)).mono ?_;rintro e w4 ⟨rfl,yD⟩;have cC:=Qq (show Boxed w4 (w.heap.size+1) 4 (.bool false)from(yD.block qB.out.lt).trans qB.out);have yI:=Qq (zR.out.trans yD);have c4:=cC.out.cell;have f4:=cC.out.frozen;clear yD))
 refine bodyPost_ret (Bq Tryz.results166 _ _ rfl (cC.out.set _).cell Tryz.underlying4 rfl) rfl ?_;exact⟨by rw [HP.out] <;> rfl,yI.out.setCell (p:=⟨w.heap.size+1,0,none⟩) (by show w.heap.size<=w.heap.size+1;omega) _⟩
theorem Qd2 {s:Nat}(hs:Qp s)(k:Nat):(bits .and .u64 ((s:Int) / 2^k) 1==0)= !s.testBit k:=by
 have e:((s:Int) / 2^k)=((s / 2^k:Nat):Int):=by rw [Int.natCast_ediv,Int.natCast_pow];rfl
 rw [e,show(1:Int)=((1:Nat):Int)from rfl,Xz (Nat.lt_of_le_of_lt (Nat.div_le_self _ _) hs) (by show(1:Nat) < _;omega),Nat.and_one_is_mod,Nat.testBit_eq_decide_div_mod_eq];generalize s / 2^k=r;rw [Bool.eq_iff_iff,beq_iff_eq,Bool.not_eq_true',decide_eq_false_iff_not];omega
theorem Qgi(l:List Nat):Uj 2 l=true↔∀i,i < l.length->(l.getD i 0).testBit i=true:=by
 rw [Eq];unfold Kz;rw [if_neg (by decide),if_pos rfl];exact Iff.rfl
theorem Ea {q:Int} {l:List Nat}(h:¬Uj q l=true):Uj q l=false:=by
 cases e:Uj q l
 ·rfl
 exact absurd e h
theorem Qac(v:Value)(l:List Nat)(w:World)(h:Jb w v l)(hw:∀s∈l,Qp s)(zT:Jw l.length l=0):
 Calls Tryz.prog 166 #[v,.int .i64 2] w fun e w'=>e=.returned (.bool (Uj 2 l))/\Ext w w':=by
 have H:=Qq h;have HW:=Qq hw;have xV:=Qq zT;have rZ:=Dt zT;obtain⟨A,c,rfl,_,_,HA⟩:=Vp h;have zK:=Qq (show Ext w ((w.alloc (.cells #[.slice A l.length c] 23)).alloc (.cells #[.bool false] 4))from(Qz.alloc _).alloc _);have vV:=Qq ((Boxed.new w 23 (.slice A l.length c)).alloc (.cells #[.bool false] 4));have wJ:=Qq (show Boxed ((w.alloc (.cells #[.slice A l.length c] 23)).alloc (.cells #[.bool false] 4)) (w.heap.size+1) 4 (.bool false) by
  have:=Boxed.new (w.alloc (.cells #[.slice A l.length c] 23)) 4 (.bool false);rw [World.size_alloc]at this;exact this)
 clear hw zT h;go_enter Tryz.func166,Tryz.ntmps166;go_wp2_with(go_at_call 113;refine(Gx _ l _ (H.out.ext zK.out) HW.out).mono ?_;rintro e w2 ⟨rfl,zS⟩;rw [xV.out];have wZ:Boxed w2 w.heap.size 23 (.slice A l.length c):=(zS.block vV.out.lt).trans vV.out;have uZ:Boxed w2 (w.heap.size+1) 4 (.bool false):=(zS.block wJ.out.lt).trans wJ.out;have zR:=Qq (zK.out.trans zS);have c2:=wZ.cell;have c3:=uZ.cell;have f3:=uZ.frozen;have rV:=Qq wZ;have qB:=Qq uZ;clear zS wZ uZ);go_loopw [24] (fun vi wr=>∃k:Nat,vi=.int .i64 (k:Int)/\k<=l.length/\Hid (wr=w2/\∀i,i < k->(l.getD i 0).testBit i=true)) (fun v _=>l.length - (intOf v).toNat)
 case atStart=>exact⟨0,rfl,Nat.zero_le _,Qq ⟨rfl,fun i hi=>absurd hi (Nat.not_lt_zero _)⟩⟩
 case round =>
  obtain⟨k,rfl,hk,HR⟩:=hrel;obtain rfl:=HR.out.1;by_cases hlt2:k < l.length
  ·have yP:(k:Int) < (l.length:Int):=by omega
   have eF:min k 64=k:=by omega
   obtain⟨ad,rfl,zU,yS⟩:=HA.out k hlt2;have a0:=(zR.out.cell (p:=ad.add k) (Qj zU)).trans yS;have nM:=Qq (Fl HW.out k);have tP:=Qd2 nM.out k;obtain⟨t,ht⟩:∃t,t=(l.getD k 0).testBit k:=⟨_,rfl⟩;have HT:=Qq ht;obtain⟨z,hz⟩:∃z,z=l.getD k 0:=⟨_,rfl⟩;rw [<-ht,<-hz]at tP;rw [<-hz]at a0;clear ht hz yS;cases t
   ·have HE:=Qq (Ea fun h=>by have:=(Qgi l).1 h k hlt2;rw [<-HT.out]at this;cases this);go_wp2_with fail;refine bodyPost_ret (Bq Tryz.results166 _ _ rfl (qB.out.set _).cell Tryz.underlying4 rfl) rfl ?_;exact⟨by rw [HE.out] <;> rfl,zR.out.setCell (p:=⟨w.heap.size+1,0,none⟩) (by show w.heap.size<=w.heap.size+1;omega) _⟩
   have HN:=Qq (show ∀i,i < k+1->(l.getD i 0).testBit i=true from fun i hi=>by
    by_cases e:i < k
    ·exact HR.out.2 i e
    obtain rfl:i=k:=by omega
    exact HT.out.symm)
   go_wp2_with fail;go_roundw
   case rel=>exact⟨k+1,by go_num,by omega,Qq ⟨trivial,HN.out⟩⟩
   case measure=>simp [intOf];omega
  obtain rfl:l.length=k:=by omega
  have HE:=Qq ((Qgi l).2 HR.out.2);go_wp2_with fail;refine bodyPost_ret (Bq Tryz.results166 _ _ rfl (qB.out.set _).cell Tryz.underlying4 rfl) rfl ?_;exact⟨by rw [HE.out] <;> rfl,zR.out.setCell (p:=⟨w.heap.size+1,0,none⟩) (by show w.heap.size<=w.heap.size+1;omega) _⟩
def Wq:Prop:=∀(v:Value) (l:List Nat) (q:Int) (w:World),Ky w->Jb w v l->(∀s∈l,Qp s)->Jw l.length l=0->0 < l.length->(q=1\/q=2\/q=4\/q=5)->
 Calls Tryz.prog 166 #[v,.int .i64 q] w fun e w'=>e=.returned (.bool (Uj q l))/\Ext w w'
theorem Qer(jP:Wq)(B:Nat)(v:Value)(l:List Nat)(q:Int)(w:World)(hT:Ky w)(h:Jb w v l)(hw:∀s∈l,Qp s)(zT:Jw l.length l=0)(h0:0 < l.length)(hq:q=1\/q=2\/q=4\/q=5)(hb:w.cell? ⟨B,0,none⟩=some v):
 Calls Tryz.prog 165 #[.int .i64 q,.pointer (some ⟨B,0,none⟩)] w fun e w'=>e=.returned (.bool (!Uj q l))/\Ext w w':=by
 have HS:=Qq (jP v l q w hT h hw zT h0 hq);obtain⟨A,c,rfl,_⟩:=h;obtain⟨pb,rB⟩:∃b,b=Uj q l:=⟨_,rfl⟩;rw [<-rB]at HS⊢;clear jP hT hw zT h0 hq rB;go_enter Tryz.func165,Tryz.ntmps165;go_wp2_with fail;refine HS.out.mono ?_;rintro e w1 ⟨rfl,hx⟩;have HX:=Qq hx;clear hx;go_wp2_with fail;go_ret;exact⟨rfl,HX.out⟩
noncomputable def Ta (lg:Int) (l:List Nat):Bool:= !((Gg lg).any fun q=> !Uj q l)
theorem Qpy {lg:Int} {l:List Nat} :Ta lg l=true↔Bo lg l:=by
 unfold Ta Bo;rw [Bool.not_eq_true',List.any_eq_false];refine forall_congr' fun q=>imp_congr_right fun _=> ?_
 unfold Uj;simp
theorem Qic(jP:Wq)(v:Value)(l:List Nat)(lg:Int)(w:World)(hT:Ky w)(h:Jb w v l)(hw:∀s∈l,Qp s)(zT:Jw l.length l=0)(h0:0 < l.length)(xY:0<=lg/\lg<=6):
 Calls Tryz.prog 101 #[v,.int .i64 lg] w fun e w'=>e=.returned (.bool (Ta lg l))/\Ext w w':=by
 have H:=Qq h;have HT:=Qq hT;have HW:=Qq hw;have xV:=Qq zT;have HP:=Qq (show p15 lg=0 from if_pos xY);have lG:=Qq (show Ta lg l= !((Gg lg).any fun q=> !Uj q l)from rfl);have HC:=Qq (fun(B:Nat) (vp:Value) (w:World) (hT:Ky w) (hi:Bc w vp (Gg lg)) (hl:Jb w v l) (hB:B < w.heap.size) (hb:w.cell? ⟨B,0,none⟩=some v)=>
  Qxr 165 #[.pointer (some ⟨B,0,none⟩)] (fun _ _=>rfl) (fun q=> !Uj q l) vp (Gg lg) w hi
   (fun W q hq hx=>Qer jP B v l q W (hT.ext hx) (hl.ext hx) hw zT h0 (Qzf hq) ((hx.cell (p:=⟨B,0,none⟩) hB).trans hb)))
 obtain⟨A,c,rfl,_⟩:=h;obtain⟨pb,rB⟩:∃b,b=(Gg lg).any fun q=> !Uj q l:=⟨_,rfl⟩
 rw [<-rB]at HC lG;clear jP hT hw zT xY rB;go_enter Tryz.func101,Tryz.ntmps101;go_wp2_with(first|(go_at_call 98;refine(Pn lg _).mono ?_;rintro e w1 ⟨vp,rfl,zN,XG⟩;rw [HP.out];have zL:=Qq (((Ext.refl w).alloc _).trans zN);have HV:=Qq (XG.out HP.out);have xS:w1.cell? ⟨w.heap.size,0,none⟩=some (.slice A l.length c):=(zN.cell (p:=⟨w.heap.size,0,none⟩) (by simp)).trans (by simp);have yT:w.heap.size < w1.heap.size:=Qy (by simp) zN.size;clear zN XG)|(go_at_call 113;refine(Gx _ l _ (H.out.ext zL.out) HW.out).mono ?_;rintro e w2 ⟨rfl,zS⟩;rw [xV.out];have zR:=Qq (zL.out.trans zS);have J0:=Qq (HV.out.ext zS);have tO:=(zS.cell (p:=⟨w.heap.size,0,none⟩) yT).trans xS;have wZ:=Qy yT zS.size;clear zS)|(go_at_call 164;refine(HC.out w.heap.size _ _ (HT.out.ext zR.out) J0.out (H.out.ext zR.out) wZ tO).mono ?_;rintro e w3 ⟨rfl,zI⟩;have zC:=Qq (zR.out.trans zI);clear zI))
 go_ret;exact⟨by rw [lG.out] <;> rfl,zC.out⟩
theorem Qih(jP:Wq)(B:Nat)(v:Value)(l:List Nat)(lg:Int)(w:World)(hT:Ky w)(h:Jb w v l)(hw:∀s∈l,Qp s)(zT:Jw l.length l=0)(h0:0 < l.length)(xY:0<=lg/\lg<=6)(hb:w.cell? ⟨B,0,none⟩=some (.int .i64 lg)):
 Calls Tryz.prog 100 #[v,.pointer (some ⟨B,0,none⟩)] w fun e w'=>e=.returned (.bool (!Ta lg l))/\Ext w w':=by
 have HS:=Qq (Qic jP v l lg w hT h hw zT h0 xY);obtain⟨A,c,rfl,_⟩:=h;obtain⟨pb,rB⟩:∃b,b=Ta lg l:=⟨_,rfl⟩;rw [<-rB]at HS⊢;clear jP hT hw zT h0 xY rB;go_enter Tryz.func100,Tryz.ntmps100;go_wp2_with fail;refine HS.out.mono ?_;rintro e w1 ⟨rfl,hx⟩;have HX:=Qq hx;clear hx;go_wp2_with fail;go_ret;exact⟨rfl,HX.out⟩
noncomputable def inB (md:Md) (lg:Int):Bool:= !(md.rel.any fun r=> !Ta lg r)
theorem Zz9(jP:Wq)(vm:Value)(md:Md)(lg:Int)(w:World)(hT:Ky w)(hm:MdV w vm md)(zO:md.ok)(zT:Zq md=0)(xY:0<=lg/\lg<=6):
 Calls Tryz.prog 39 #[vm,.int .i64 lg] w fun e w'=>e=.returned (.bool (inB md lg))/\Ext w w':=by
 have HM:=Qq hm;have HT:=Qq hT;have zD:=Qq zO;have xV:=Qq zT;have HP:=Qq (show p15 lg=0 from if_pos xY);have lG:=Qq (show inB md lg= !(md.rel.any fun r=> !Ta lg r)from rfl);have hz:=Zn zT;have vW:=Qsg zT;have HR:Hid (∀r∈md.rel,Jw r.length r=0/\0 < r.length):=Qq fun r hr=>by
  have hl:=hz.2.2.2.2.1 r hr;exact⟨Pv (by omega) (by omega) (vW r hr),by omega⟩
 have HC:=Qq (fun(B:Nat) (vp:Value) (w:World) (hT:Ky w) (hi:Li w vp md.rel) (hB:B < w.heap.size) (hb:w.cell? ⟨B,0,none⟩=some (.int .i64 lg))=>
  Ie 100 #[.pointer (some ⟨B,0,none⟩)] (fun _ _=>rfl) (fun r=> !Ta lg r) vp md.rel w hi
   (fun W u r hr hx hu=>Qih jP B u r lg W (hT.ext hx) hu (zO.rel r hr) (HR.out r hr).1 (HR.out r hr).2 xY ((hx.cell (p:=⟨B,0,none⟩) hB).trans hb)))
 obtain⟨vv,vr,rfl,hv,hr⟩:=hm;have K1:=Qq hr;obtain⟨pb,rB⟩:∃b,b=(md.rel.any fun r=> !Ta lg r):=⟨_,rfl⟩;rw [<-rB]at HC lG;clear jP hT zO zT hz vW xY rB hv hr;go_enter Tryz.func39,Tryz.ntmps39;go_wp2_with(first|(go_at_call 98;refine(Pn lg _).mono ?_;rintro e w1 ⟨vp,rfl,zN,XG⟩;rw [HP.out];have zL:=Qq ((((Ext.refl w).alloc _).alloc _).trans zN);have pI:w1.cell? ⟨w.heap.size,0,none⟩=some (.int .i64 md.n):=(zN.cell (p:=⟨w.heap.size,0,none⟩) (by simp;omega)).trans (by simp);have uY:w1.cell? ⟨w.heap.size,1,none⟩=some vv:=(zN.cell (p:=⟨w.heap.size,1,none⟩) (by simp;omega)).trans (by simp);have xM:w1.cell? ⟨w.heap.size,2,none⟩=some vr:=(zN.cell (p:=⟨w.heap.size,2,none⟩) (by simp;omega)).trans (by simp);have rH:w1.cell? ⟨w.heap.size+1,0,none⟩=some (.int .i64 lg):=(zN.cell (p:=⟨w.heap.size+1,0,none⟩) (by simp)).trans (by simp);have yT:w.heap.size+1 < w1.heap.size:=Qy (by simp) zN.size;clear zN XG)|(go_at_call 93;refine(Xs _ md _ (HM.out.ext zL.out) zD.out).mono ?_;rintro e w2 ⟨rfl,zS⟩;rw [xV.out];have zR:=Qq (zL.out.trans zS);have tO:=(zS.cell (p:=⟨w.heap.size,2,none⟩) (by show w.heap.size < _;omega)).trans xM;have sX:=(zS.cell (p:=⟨w.heap.size+1,0,none⟩) yT).trans rH;have wZ:=Qy yT zS.size;clear zS)|(go_at_call 99;refine(HC.out (w.heap.size+1) _ _ (HT.out.ext zR.out) (K1.out.ext zR.out) wZ sX).mono ?_;rintro e w3 ⟨rfl,zI⟩;have zC:=Qq (zR.out.trans zI);clear zI))
 go_ret;exact⟨by rw [lG.out] <;> rfl,zC.out⟩
theorem Qdq {md:Md} {lg:Int} :inB md lg=true↔∀r∈md.rel,Bo lg r:=by
 unfold inB;rw [Bool.not_eq_true',List.any_eq_false];refine forall_congr' fun r=>imp_congr_right fun _=> ?_
 rw [<-Qpy];cases Ta lg r <;> simp
theorem Qai {md:Md} {lg:Int}(zT:Zq md=0)(xY:0<=lg/\lg<=6)(h:inB md lg=true):Fd md lg:=by
 exact⟨xY,zT,Qdq.1 h⟩
end Go.Proofs.YtkmclcmnoicagaaGreatDoor
