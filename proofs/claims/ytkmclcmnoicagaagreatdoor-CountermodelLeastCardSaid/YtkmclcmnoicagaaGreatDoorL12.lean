/- slices.Index and Contains at words. -/
import Derived.Test.YtkmclcmnoicagaaGreatDoorL10
import Derived.Test.YtkmclcmnoicagaaGreatDoorL11
namespace Go.Proofs.YtkmclcmnoicagaaGreatDoor
set_option maxRecDepth 100000
set_option maxHeartbeats 128000000
open Go.RowKit
theorem Ql6(x:Nat)(v:Value)(l:List Nat)(w:World)(h:Jb w v l):
 Calls Tryz.prog 218 #[v,.int .u64 (x:Int)] w fun e w'=>e=.returned (.int .i64 (Rq (fun s=>decide (x=s)) l))/\Qg w w':=by
 obtain⟨A,c,rfl,xU,yP,HR⟩:=Vl h;unfold maxLen at yP;clear h;go_enter Tryz.func218,Tryz.ntmps218;go_wp2_with fail;go_loopw [5,8] (fun _ i wr=>∃k:Nat,k<=l.length/\i=.int .i64 (k:Int)/\Hid (∀t∈l.take k,decide (x=t)=false)/\Hid (Qg w wr)) (fun _ i _=>l.length - (intOf i).toNat)
 case atStart=>exact⟨0,Nat.zero_le _,rfl,Qq (by simp),Qq Qz⟩
 case round =>
  obtain⟨k,hk,rfl,tX,HX⟩:=hrel;by_cases hlt2:k < l.length
  ·obtain⟨s,hs⟩:∃s,l[k]?=some s:=⟨_,Qv hlt2⟩;obtain⟨ad,rfl,yV,xV⟩:=HR.out k hlt2;rw [Qk,hs,Option.getD_some]at xV;have a0:wr.cell? (ad.add k)=some (.int .u64 (s:Int)):=(HX.out.cell (p:=ad.add k) (Qj yV)).trans xV;clear xV;have HA:=Qq hs;have yT:(k:Int) < (l.length:Int):=by omega
   clear hs;by_cases vP:x=s
   ·have US:((x:Int)==(s:Int))=true:=by simp [vP]
    have HE:=Qq (Wj (p:=fun s=>decide (x=s)) HA.out (decide_eq_true vP) tX.out);clear vP;go_wp2_with fail;go_ret;exact⟨by rw [HE.out] <;> rfl,HX.out⟩
   have US:((x:Int)==(s:Int))=false:=by simp only [beq_eq_false_iff_ne,ne_eq,Int.natCast_inj];exact vP
   have HT:Hid (∀t∈l.take (k+1),decide (x=t)=false):=Qq (by
    rw [Hb HA.out];intro t ht;rcases List.mem_append.1 ht with ht|ht
    ·exact tX.out t ht
    rw [List.mem_singleton.1 ht];exact decide_eq_false vP)
   clear vP;go_wp2_with fail;go_roundw
   case rel=>exact⟨k+1,by omega,by go_num,HT,HX⟩
   case measure=>simp [intOf];omega
  obtain rfl:l.length=k:=by omega
  have HE:=Qq (Le (p:=fun s=>decide (x=s)) (l:=l) (fun t ht=>tX.out t (by rw [List.take_of_length_le (Nat.le_refl _)];exact ht)));go_wp2_with fail;go_ret;exact⟨by rw [HE.out] <;> rfl,HX.out⟩
theorem Qbg(x:Nat)(v:Value)(l:List Nat)(w:World)(h:Jb w v l):
 Calls Tryz.prog 199 #[v,.int .u64 (x:Int)] w fun e w'=>e=.returned (.bool (l.any fun s=>decide (x=s)))/\Qg w w':=by
 have HI:=Qq (Ql6 x v l w h);have HE:=Qq (Wz (fun s=>decide (x=s)) l);clear h;obtain⟨z,hz⟩:∃z,z=Rq (fun s=>decide (x=s)) l:=⟨_,rfl⟩;rw [<-hz]at HI HE;clear hz;go_enter Tryz.func199,Tryz.ntmps199;go_wp2_with(refine HI.out.mono ?_;rintro e w1 ⟨rfl,hx⟩);go_ret;exact⟨by rw [<-HE.out] <;> rfl,hx⟩
def Na(r:List Nat)(s:Nat):Nat:=if Jh r.length r=0 then Vg r r.length s else 0
theorem Nx {r:List Nat}(h:Jh r.length r=0):r.length<=64:=by
 unfold Jh at h;split at h
 ·cases h
 omega
theorem Mc(v:Value)(r:List Nat)(s:Nat)(w:World)(h:Jb w v r)(hw:∀s∈r,Qp s)(hs:Qp s):
 Calls Tryz.prog 186 #[v,.int .u64 (s:Int)] w fun e w'=>e=.returned (.int .u64 ((Na r s:Nat):Int))/\Qg w w':=by
 have H:=Qq h;obtain⟨A,c,rfl,_,_,HL⟩:=Vl h;have sK:=Qq hw;have HS:=Qq hs;clear h hw hs;by_cases zU:Jh r.length r=0
 ·have hn:=Nx zU;have HC:=Qq zU;have HB:=Qq (show Na r s=Vg r r.length s by unfold Na;rw [if_pos HC.out]);clear zU;obtain⟨n,zQ⟩:∃n,n=r.length:=⟨_,rfl⟩;have HN:=Qq zQ;go_enter Tryz.func186,Tryz.ntmps186;clear zQ;go_upto_region 1 with(fail);go_wp2_with(go_at_call 113;refine(Gx _ r _ H.out sK.out).mono ?_;rintro e w1 ⟨rfl,zP⟩;rw [HC.out];have zM:=Qq zP;clear zP);rw [<-HN.out];go_loopw [5,14] (fun vo vi wr=>∃k:Nat,vi=.int .i64 (k:Int)/\k<=n/\vo=.int .u64 ((Vd k (fun i=>Jr (r.getD i 0) s):Nat):Int)/\Hid (Qg w wr)) (fun _ v _=>n - (intOf v).toNat)
  case atStart=>exact⟨0,rfl,Nat.zero_le _,rfl,Qq zM.out⟩
  case round =>
   obtain⟨k,rfl,hk,rfl,HX⟩:=hrel;obtain⟨m,hm⟩:∃m,m=Vd k (fun i=>Jr (r.getD i 0) s):=⟨_,rfl⟩;have HM:=Qq hm;rw [<-hm];clear hm;by_cases hlt2:k < n
   ·have yT:(k:Int) < (n:Int):=by omega
    have wW:(k:Int) < (r.length:Int):=by rw [<-HN.out];exact yT
    have vG:k < 64:=by omega
    have wI:min k 64=k:=by omega
    obtain⟨ad,rfl,zV,hc⟩:=HL.out k (by rw [<-HN.out];exact hlt2);have a0:=(HX.out.cell (p:=ad.add k) (Qj zV)).trans hc;have al:(ad.add k).block < wr.heap.size:=by rw [Qt];exact Qy zV HX.out.size
    have hz:=Ov (Yg sK.out k) HS.out;have iO:=Qq (Dk k (fun i=>Jr (r.getD i 0) s));have bE:=Qq (Oo (s:=m) (k:=k) (by rw [HM.out];exact Fi (by omega) _) vG);obtain⟨x,hx⟩:∃x,x=r.getD k 0:=⟨_,rfl⟩;rw [<-hx]at a0 hz;have oX:=Qq hx;clear hc hx;cases hd:Jr x s
    ·rw [hd]at hz;have HP:=Qq (show Vd (k+1) (fun i=>Jr (r.getD i 0) s)=m by rw [iO.out,<-oX.out,hd,HM.out];rfl);clear hd;go_wp2_with fail;go_roundw
     case rel=>exact⟨k+1,by go_num,by omega,by rw [HP.out],HX⟩
     case measure=>simp [intOf];omega
    rw [hd]at hz;have HP:=Qq (show Vd (k+1) (fun i=>Jr (r.getD i 0) s)=m|||2^k by rw [iO.out,<-oX.out,hd,HM.out];rfl);have uM:=bE.out;clear hd;obtain⟨m2,xO⟩:∃m2,m2=m|||2^k:=⟨_,rfl⟩;rw [<-xO]at HP uM;clear xO;go_wp2_with fail;go_roundw
    case rel=>exact⟨k+1,by go_num,by omega,by rw [HP.out],HX⟩
    case measure=>simp [intOf];omega
   obtain rfl:n=k:=by omega
   go_wp2_with fail;go_ret;exact⟨by rw [HB.out,<-HN.out,show Vg r n s=m from HM.out.symm] <;> rfl,HX.out⟩
 have HC:=Qq zU;have HB:=Qq (show Na r s=0 by unfold Na;rw [if_neg HC.out]);obtain⟨ce,cG⟩:∃z,z=Jh r.length r:=⟨_,rfl⟩;rw [<-cG]at zU;have zQ:(ce !=0)=true:=by simpa using zU
 have JC:=Qq cG;clear zU cG;go_enter Tryz.func186,Tryz.ntmps186;go_wp2_with(go_at_call 113;refine(Gx _ r _ H.out sK.out).mono ?_;rintro e w1 ⟨rfl,zP⟩;rw [<-JC.out];have zM:=Qq zP;clear zP);go_ret;exact⟨by rw [HB.out] <;> rfl,zM.out⟩
theorem Bd {P:Program} {fn:Func} {t:Tmp} {ty:TypeId}(h:fn.results=#[.cell t ty])(tmps:Array Value)(w:World) {a:Addr} {v:Value} {d:TypeDesc}(ht:tmps.getD t undef=.pointer (some a))(hc:w.cell? a=some v)
 (hu:P.underlying ty=some d)(hd:(match d with| .struct _| .array _ _=>true|_=>false)=false):(results fn tmps).run P w=.ok v w:=by
 have kS:tmps[t]?.getD undef=.pointer (some a):=by simpa using ht
 have EN:(isAgg ty).run P w=.ok false w:=by
  unfold isAgg;rw [Sem.run_bind,run_underlying hu w];cases d <;> simp_all
 simp [results,h,kS,asAddr,loadVar,Sem.run_bind,EN,hc]
open Classical in
noncomputable def Uq (q:Int) (l:List Nat):Bool:=decide (Ky q l)
theorem Wm {q:Int} {l:List Nat} :Uq q l=true↔Ky q l:=by
 unfold Uq;exact @decide_eq_true_iff _ (Classical.propDecidable _)
theorem Qhf(l:List Nat):Uq 1 l= !(l.any fun s=>decide (0=s)):=by
 rw [Bool.eq_iff_iff,Wm,Bool.not_eq_true',List.any_eq_false];unfold Ky;rw [if_pos rfl];constructor
 ·intro h s hs e;obtain⟨i,hi,rfl⟩:=List.getElem_of_mem hs;have:=h i hi;rw [Qk,Qv hi]at this;exact this (of_decide_eq_true e).symm
 intro h i hi e;rw [Qk,Qv hi]at e;exact h _ (List.getElem_mem hi) (decide_eq_true e.symm)
theorem Qev(v:Value)(l:List Nat)(w:World)(h:Jb w v l)(hw:∀s∈l,Qp s)(zU:Jh l.length l=0):
 Calls Tryz.prog 166 #[v,.int .i64 1] w fun e w'=>e=.returned (.bool (Uq 1 l))/\Qg w w':=by
 have H:=Qq h;have HW:=Qq hw;have yF:=Qq zU;have HP:=Qq (Qhf l);obtain⟨A,c,rfl,_⟩:=h;obtain⟨pb,qX⟩:∃b,b=(l.any fun s=>decide (0=s)):=⟨_,rfl⟩;have kC:=Qq (fun w h=>Qbg 0 (.slice A l.length c) l w h);rw [<-qX]at HP kC;have zL:=Qq (show Qg w ((w.alloc (.cells #[.slice A l.length c] 23)).alloc (.cells #[.bool false] 4))from(Qz.alloc _).alloc _);have vX:=Qq ((Boxed.new w 23 (.slice A l.length c)).alloc (.cells #[.bool false] 4));have wO:=Qq (show Boxed ((w.alloc (.cells #[.slice A l.length c] 23)).alloc (.cells #[.bool false] 4)) (w.heap.size+1) 4 (.bool false) by
  have:=Boxed.new (w.alloc (.cells #[.slice A l.length c] 23)) 4 (.bool false);rw [World.size_alloc]at this;exact this)
 clear hw zU qX;go_enter Tryz.func166,Tryz.ntmps166;go_upto_region 1 with(fail);go_wp2_with(first|(go_at_call 113;refine(Gx _ l _ (H.out.ext zL.out) HW.out).mono ?_;rintro e w2 ⟨rfl,zT⟩;rw [yF.out];have xC:Boxed w2 w.heap.size 23 (.slice A l.length c):=(zT.block vX.out.lt).trans vX.out;have vR:Boxed w2 (w.heap.size+1) 4 (.bool false):=(zT.block wO.out.lt).trans wO.out;have zS:=Qq (zL.out.trans zT);have c2:=xC.cell;have c3:=vR.cell;have f3:=vR.frozen;have rY:=Qq xC;have qD:=Qq vR;clear zT xC vR)|(go_at_call 199;refine(kC.out _ (H.out.ext zS.out)).mono ?_;rintro e w4 ⟨rfl,yE⟩;have fY:=Qq (show Boxed w4 (w.heap.size+1) 4 (.bool false)from(yE.block qD.out.lt).trans qD.out);have yN:=Qq (zS.out.trans yE);have c4:=fY.out.cell;have f4:=fY.out.frozen;clear yE))
 refine bodyPost_ret (Bd Tryz.results166 _ _ rfl (fY.out.set _).cell Tryz.underlying4 rfl) rfl ?_;exact⟨by rw [HP.out] <;> rfl,yN.out.setCell (p:=⟨w.heap.size+1,0,none⟩) (by show w.heap.size<=w.heap.size+1;omega) _⟩
theorem Qnl {s:Nat}(hs:Qp s)(k:Nat):(bits .and .u64 ((s:Int) / 2^k) 1==0)= !s.testBit k:=by
 have e:((s:Int) / 2^k)=((s / 2^k:Nat):Int):=by rw [Int.natCast_ediv,Int.natCast_pow];rfl
 rw [e,show(1:Int)=((1:Nat):Int)from rfl,Xy (Nat.lt_of_le_of_lt (Nat.div_le_self _ _) hs) (by show(1:Nat) < _;omega),Nat.and_one_is_mod,Nat.testBit_eq_decide_div_mod_eq];generalize s / 2^k=r;rw [Bool.eq_iff_iff,beq_iff_eq,Bool.not_eq_true',decide_eq_false_iff_not];omega
theorem Qfn(l:List Nat):Uq 2 l=true↔∀i,i < l.length->(l.getD i 0).testBit i=true:=by
 rw [Wm];unfold Ky;rw [if_neg (by decide),if_pos rfl];exact Iff.rfl
theorem Of {q:Int} {l:List Nat}(h:¬Uq q l=true):Uq q l=false:=by
 cases e:Uq q l
 ·rfl
 exact absurd e h
theorem Qek(v:Value)(l:List Nat)(w:World)(h:Jb w v l)(hw:∀s∈l,Qp s)(zU:Jh l.length l=0):
 Calls Tryz.prog 166 #[v,.int .i64 2] w fun e w'=>e=.returned (.bool (Uq 2 l))/\Qg w w':=by
 have H:=Qq h;have HW:=Qq hw;have yF:=Qq zU;have sA:=Nx zU;obtain⟨A,c,rfl,_,_,HA⟩:=Vl h;have zL:=Qq (show Qg w ((w.alloc (.cells #[.slice A l.length c] 23)).alloc (.cells #[.bool false] 4))from(Qz.alloc _).alloc _);have vX:=Qq ((Boxed.new w 23 (.slice A l.length c)).alloc (.cells #[.bool false] 4));have wO:=Qq (show Boxed ((w.alloc (.cells #[.slice A l.length c] 23)).alloc (.cells #[.bool false] 4)) (w.heap.size+1) 4 (.bool false) by
  have:=Boxed.new (w.alloc (.cells #[.slice A l.length c] 23)) 4 (.bool false);rw [World.size_alloc]at this;exact this)
 clear hw zU h;go_enter Tryz.func166,Tryz.ntmps166;go_wp2_with(go_at_call 113;refine(Gx _ l _ (H.out.ext zL.out) HW.out).mono ?_;rintro e w2 ⟨rfl,zT⟩;rw [yF.out];have xC:Boxed w2 w.heap.size 23 (.slice A l.length c):=(zT.block vX.out.lt).trans vX.out;have vR:Boxed w2 (w.heap.size+1) 4 (.bool false):=(zT.block wO.out.lt).trans wO.out;have zS:=Qq (zL.out.trans zT);have c2:=xC.cell;have c3:=vR.cell;have f3:=vR.frozen;have rY:=Qq xC;have qD:=Qq vR;clear zT xC vR);go_loopw [24] (fun vi wr=>∃k:Nat,vi=.int .i64 (k:Int)/\k<=l.length/\Hid (wr=w2/\∀i,i < k->(l.getD i 0).testBit i=true)) (fun v _=>l.length - (intOf v).toNat)
 case atStart=>exact⟨0,rfl,Nat.zero_le _,Qq ⟨rfl,fun i hi=>absurd hi (Nat.not_lt_zero _)⟩⟩
 case round =>
  obtain⟨k,rfl,hk,HR⟩:=hrel;obtain rfl:=HR.out.1;by_cases hlt2:k < l.length
  ·have yT:(k:Int) < (l.length:Int):=by omega
   have dW:min k 64=k:=by omega
   obtain⟨ad,rfl,zV,yR⟩:=HA.out k hlt2;have a0:=(zS.out.cell (p:=ad.add k) (Qj zV)).trans yR;have nO:=Qq (Fa HW.out k);have tM:=Qnl nO.out k;obtain⟨t,ht⟩:∃t,t=(l.getD k 0).testBit k:=⟨_,rfl⟩;have HT:=Qq ht;obtain⟨z,hz⟩:∃z,z=l.getD k 0:=⟨_,rfl⟩;rw [<-ht,<-hz]at tM;rw [<-hz]at a0;clear ht hz yR;cases t
   ·have HE:=Qq (Of fun h=>by have:=(Qfn l).1 h k hlt2;rw [<-HT.out]at this;cases this);go_wp2_with fail;refine bodyPost_ret (Bd Tryz.results166 _ _ rfl (qD.out.set _).cell Tryz.underlying4 rfl) rfl ?_;exact⟨by rw [HE.out] <;> rfl,zS.out.setCell (p:=⟨w.heap.size+1,0,none⟩) (by show w.heap.size<=w.heap.size+1;omega) _⟩
   have HN:=Qq (show ∀i,i < k+1->(l.getD i 0).testBit i=true from fun i hi=>by
    by_cases e:i < k
    ·exact HR.out.2 i e
    obtain rfl:i=k:=by omega
    exact HT.out.symm)
   go_wp2_with fail;go_roundw
   case rel=>exact⟨k+1,by go_num,by omega,Qq ⟨trivial,HN.out⟩⟩
   case measure=>simp [intOf];omega
  obtain rfl:l.length=k:=by omega
  have HE:=Qq ((Qfn l).2 HR.out.2);go_wp2_with fail;refine bodyPost_ret (Bd Tryz.results166 _ _ rfl (qD.out.set _).cell Tryz.underlying4 rfl) rfl ?_;exact⟨by rw [HE.out] <;> rfl,zS.out.setCell (p:=⟨w.heap.size+1,0,none⟩) (by show w.heap.size<=w.heap.size+1;omega) _⟩
def Ot:Prop:=∀(v:Value) (l:List Nat) (q:Int) (w:World),Kk w->Jb w v l->(∀s∈l,Qp s)->Jh l.length l=0->0 < l.length->(q=1\/q=2\/q=4\/q=5)->
 Calls Tryz.prog 166 #[v,.int .i64 q] w fun e w'=>e=.returned (.bool (Uq q l))/\Qg w w'
theorem Qe9(jS:Ot)(B:Nat)(v:Value)(l:List Nat)(q:Int)(w:World)(hT:Kk w)(h:Jb w v l)(hw:∀s∈l,Qp s)(zU:Jh l.length l=0)(h0:0 < l.length)(hq:q=1\/q=2\/q=4\/q=5)(hb:w.cell? ⟨B,0,none⟩=some v):
 Calls Tryz.prog 165 #[.int .i64 q,.pointer (some ⟨B,0,none⟩)] w fun e w'=>e=.returned (.bool (!Uq q l))/\Qg w w':=by
 have HS:=Qq (jS v l q w hT h hw zU h0 hq);obtain⟨A,c,rfl,_⟩:=h;obtain⟨pb,qX⟩:∃b,b=Uq q l:=⟨_,rfl⟩;rw [<-qX]at HS⊢;clear jS hT hw zU h0 hq qX;go_enter Tryz.func165,Tryz.ntmps165;go_wp2_with fail;refine HS.out.mono ?_;rintro e w1 ⟨rfl,hx⟩;have HX:=Qq hx;clear hx;go_wp2_with fail;go_ret;exact⟨rfl,HX.out⟩
noncomputable def Lw (lg:Int) (l:List Nat):Bool:= !((Gg lg).any fun q=> !Uq q l)
theorem Qp0 {lg:Int} {l:List Nat} :Lw lg l=true↔Dm lg l:=by
 unfold Lw Dm;rw [Bool.not_eq_true',List.any_eq_false];refine forall_congr' fun q=>imp_congr_right fun _=> ?_
 unfold Uq;simp
theorem Zqk(jS:Ot)(v:Value)(l:List Nat)(lg:Int)(w:World)(hT:Kk w)(h:Jb w v l)(hw:∀s∈l,Qp s)(zU:Jh l.length l=0)(h0:0 < l.length)(yA:0<=lg/\lg<=6):
 Calls Tryz.prog 101 #[v,.int .i64 lg] w fun e w'=>e=.returned (.bool (Lw lg l))/\Qg w w':=by
 have H:=Qq h;have HT:=Qq hT;have HW:=Qq hw;have yF:=Qq zU;have HP:=Qq (show Iq lg=0 from if_pos yA);have lP:=Qq (show Lw lg l= !((Gg lg).any fun q=> !Uq q l)from rfl);have HC:=Qq (fun(B:Nat) (vp:Value) (w:World) (hT:Kk w) (hi:Db w vp (Gg lg)) (hl:Jb w v l) (hB:B < w.heap.size) (hb:w.cell? ⟨B,0,none⟩=some v)=>
  Qx7 165 #[.pointer (some ⟨B,0,none⟩)] (fun _ _=>rfl) (fun q=> !Uq q l) vp (Gg lg) w hi
   (fun W q hq hx=>Qe9 jS B v l q W (hT.ext hx) (hl.ext hx) hw zU h0 (Qjn hq) ((hx.cell (p:=⟨B,0,none⟩) hB).trans hb)))
 obtain⟨A,c,rfl,_⟩:=h;obtain⟨pb,qX⟩:∃b,b=(Gg lg).any fun q=> !Uq q l:=⟨_,rfl⟩
 rw [<-qX]at HC lP;clear jS hT hw zU yA qX;go_enter Tryz.func101,Tryz.ntmps101;go_wp2_with(first|(go_at_call 98;refine(Ci lg _).mono ?_;rintro e w1 ⟨vp,rfl,zP,XO⟩;rw [HP.out];have zM:=Qq (((Qg.refl w).alloc _).trans zP);have HV:=Qq (XO.out HP.out);have xV:w1.cell? ⟨w.heap.size,0,none⟩=some (.slice A l.length c):=(zP.cell (p:=⟨w.heap.size,0,none⟩) (by simp)).trans (by simp);have yV:w.heap.size < w1.heap.size:=Qy (by simp) zP.size;clear zP XO)|(go_at_call 113;refine(Gx _ l _ (H.out.ext zM.out) HW.out).mono ?_;rintro e w2 ⟨rfl,zT⟩;rw [yF.out];have zS:=Qq (zM.out.trans zT);have I0:=Qq (HV.out.ext zT);have tL:=(zT.cell (p:=⟨w.heap.size,0,none⟩) yV).trans xV;have xC:=Qy yV zT.size;clear zT)|(go_at_call 164;refine(HC.out w.heap.size _ _ (HT.out.ext zS.out) I0.out (H.out.ext zS.out) xC tL).mono ?_;rintro e w3 ⟨rfl,zF⟩;have zD:=Qq (zS.out.trans zF);clear zF))
 go_ret;exact⟨by rw [lP.out] <;> rfl,zD.out⟩
theorem Zqx(jS:Ot)(B:Nat)(v:Value)(l:List Nat)(lg:Int)(w:World)(hT:Kk w)(h:Jb w v l)(hw:∀s∈l,Qp s)(zU:Jh l.length l=0)(h0:0 < l.length)(yA:0<=lg/\lg<=6)(hb:w.cell? ⟨B,0,none⟩=some (.int .i64 lg)):
 Calls Tryz.prog 100 #[v,.pointer (some ⟨B,0,none⟩)] w fun e w'=>e=.returned (.bool (!Lw lg l))/\Qg w w':=by
 have HS:=Qq (Zqk jS v l lg w hT h hw zU h0 yA);obtain⟨A,c,rfl,_⟩:=h;obtain⟨pb,qX⟩:∃b,b=Lw lg l:=⟨_,rfl⟩;rw [<-qX]at HS⊢;clear jS hT hw zU h0 yA qX;go_enter Tryz.func100,Tryz.ntmps100;go_wp2_with fail;refine HS.out.mono ?_;rintro e w1 ⟨rfl,hx⟩;have HX:=Qq hx;clear hx;go_wp2_with fail;go_ret;exact⟨rfl,HX.out⟩
noncomputable def inB (md:Md) (lg:Int):Bool:= !(md.rel.any fun r=> !Lw lg r)
theorem Zjh(jS:Ot)(vm:Value)(md:Md)(lg:Int)(w:World)(hT:Kk w)(hm:Yz w vm md)(zO:md.ok)(zU:Qa md=0)(yA:0<=lg/\lg<=6):
 Calls Tryz.prog 39 #[vm,.int .i64 lg] w fun e w'=>e=.returned (.bool (inB md lg))/\Qg w w':=by
 have HM:=Qq hm;have HT:=Qq hT;have zC:=Qq zO;have yF:=Qq zU;have HP:=Qq (show Iq lg=0 from if_pos yA);have lP:=Qq (show inB md lg= !(md.rel.any fun r=> !Lw lg r)from rfl);have hz:=Zb zU;have vY:=Qs5 zU;have HR:Hid (∀r∈md.rel,Jh r.length r=0/\0 < r.length):=Qq fun r hr=>by
  have hl:=hz.2.2.2.2.1 r hr;exact⟨Cc (by omega) (by omega) (vY r hr),by omega⟩
 have HC:=Qq (fun(B:Nat) (vp:Value) (w:World) (hT:Kk w) (hi:Ct w vp md.rel) (hB:B < w.heap.size) (hb:w.cell? ⟨B,0,none⟩=some (.int .i64 lg))=>
  Qzy 100 #[.pointer (some ⟨B,0,none⟩)] (fun _ _=>rfl) (fun r=> !Lw lg r) vp md.rel w hi
   (fun W u r hr hx hu=>Zqx jS B u r lg W (hT.ext hx) hu (zO.rel r hr) (HR.out r hr).1 (HR.out r hr).2 yA ((hx.cell (p:=⟨B,0,none⟩) hB).trans hb)))
 obtain⟨vv,vr,rfl,hv,hr⟩:=hm;have J1:=Qq hr;obtain⟨pb,qX⟩:∃b,b=(md.rel.any fun r=> !Lw lg r):=⟨_,rfl⟩;rw [<-qX]at HC lP;clear jS hT zO zU hz vY yA qX hv hr;go_enter Tryz.func39,Tryz.ntmps39;go_wp2_with(first|(go_at_call 98;refine(Ci lg _).mono ?_;rintro e w1 ⟨vp,rfl,zP,XO⟩;rw [HP.out];have zM:=Qq ((((Qg.refl w).alloc _).alloc _).trans zP);have pL:w1.cell? ⟨w.heap.size,0,none⟩=some (.int .i64 md.n):=(zP.cell (p:=⟨w.heap.size,0,none⟩) (by simp;omega)).trans (by simp);have uR:w1.cell? ⟨w.heap.size,1,none⟩=some vv:=(zP.cell (p:=⟨w.heap.size,1,none⟩) (by simp;omega)).trans (by simp);have xO:w1.cell? ⟨w.heap.size,2,none⟩=some vr:=(zP.cell (p:=⟨w.heap.size,2,none⟩) (by simp;omega)).trans (by simp);have rF:w1.cell? ⟨w.heap.size+1,0,none⟩=some (.int .i64 lg):=(zP.cell (p:=⟨w.heap.size+1,0,none⟩) (by simp)).trans (by simp);have yV:w.heap.size+1 < w1.heap.size:=Qy (by simp) zP.size;clear zP XO)|(go_at_call 93;refine(Xm _ md _ (HM.out.ext zM.out) zC.out).mono ?_;rintro e w2 ⟨rfl,zT⟩;rw [yF.out];have zS:=Qq (zM.out.trans zT);have tL:=(zT.cell (p:=⟨w.heap.size,2,none⟩) (by show w.heap.size < _;omega)).trans xO;have pM:=(zT.cell (p:=⟨w.heap.size+1,0,none⟩) yV).trans rF;have xC:=Qy yV zT.size;clear zT)|(go_at_call 99;refine(HC.out (w.heap.size+1) _ _ (HT.out.ext zS.out) (J1.out.ext zS.out) xC pM).mono ?_;rintro e w3 ⟨rfl,zF⟩;have zD:=Qq (zS.out.trans zF);clear zF))
 go_ret;exact⟨by rw [lP.out] <;> rfl,zD.out⟩
theorem Qda {md:Md} {lg:Int} :inB md lg=true↔∀r∈md.rel,Dm lg r:=by
 unfold inB;rw [Bool.not_eq_true',List.any_eq_false];refine forall_congr' fun r=>imp_congr_right fun _=> ?_
 rw [<-Qp0];cases Lw lg r <;> simp
theorem Qen {md:Md} {lg:Int}(zU:Qa md=0)(yA:0<=lg/\lg<=6)(h:inB md lg=true):Fl md lg:=by
 exact⟨yA,zU,Qda.1 h⟩
end Go.Proofs.YtkmclcmnoicagaaGreatDoor
