/- slices.Index and Contains at words. -/
import Derived.Test.YtkmclcmnoicagaaGreatDoorH10
import Derived.Test.YtkmclcmnoicagaaGreatDoorH11
namespace Go.Proofs.YtkmclcmnoicagaaGreatDoor
set_option maxRecDepth 100000
set_option maxHeartbeats 128000000
open Go.RowKit
theorem Qmn(x:Nat)(v:Value)(l:List Nat)(w:World)(h:Jn w v l):
 Calls Tryz.prog 218 #[v,.int .u64 (x:Int)] w fun e w'=>e=.returned (.int .i64 (Np (fun s=>decide (x=s)) l))/\Qg w w':=by
 obtain⟨A,c,rfl,xR,yN,HR⟩:=Vf h;unfold maxLen at yN;clear h;go_enter Tryz.func218,Tryz.ntmps218;go_wp2_with fail;go_loopw [5,8] (fun _ i wr=>∃k:Nat,k<=l.length/\i=.int .i64 (k:Int)/\Hid (∀t∈l.take k,decide (x=t)=false)/\Hid (Qg w wr)) (fun _ i _=>l.length - (intOf i).toNat)
 case atStart=>exact⟨0,Nat.zero_le _,rfl,Qq (by simp),Qq Qz⟩
 case round =>
  obtain⟨k,hk,rfl,tP,HX⟩:=hrel;by_cases hlt2:k < l.length
  ·obtain⟨s,hs⟩:∃s,l[k]?=some s:=⟨_,Qv hlt2⟩;obtain⟨ad,rfl,yS,xV⟩:=HR.out k hlt2;rw [Qk,hs,Option.getD_some]at xV;have a0:wr.cell? (ad.add k)=some (.int .u64 (s:Int)):=(HX.out.cell (p:=ad.add k) (Qj yS)).trans xV;clear xV;have HA:=Qq hs;have yV:(k:Int) < (l.length:Int):=by omega
   clear hs;by_cases vF:x=s
   ·have ZA:((x:Int)==(s:Int))=true:=by simp [vF]
    have HE:=Qq (Wm (p:=fun s=>decide (x=s)) HA.out (decide_eq_true vF) tP.out);clear vF;go_wp2_with fail;go_ret;exact⟨by rw [HE.out] <;> rfl,HX.out⟩
   have ZA:((x:Int)==(s:Int))=false:=by simp only [beq_eq_false_iff_ne,ne_eq,Int.natCast_inj];exact vF
   have HT:Hid (∀t∈l.take (k+1),decide (x=t)=false):=Qq (by
    rw [Hw HA.out];intro t ht;rcases List.mem_append.1 ht with ht|ht
    ·exact tP.out t ht
    rw [List.mem_singleton.1 ht];exact decide_eq_false vF)
   clear vF;go_wp2_with fail;go_roundw
   case rel=>exact⟨k+1,by omega,by go_num,HT,HX⟩
   case measure=>simp [intOf];omega
  obtain rfl:l.length=k:=by omega
  have HE:=Qq (Lo (p:=fun s=>decide (x=s)) (l:=l) (fun t ht=>tP.out t (by rw [List.take_of_length_le (Nat.le_refl _)];exact ht)));go_wp2_with fail;go_ret;exact⟨by rw [HE.out] <;> rfl,HX.out⟩
theorem Qbo(x:Nat)(v:Value)(l:List Nat)(w:World)(h:Jn w v l):
 Calls Tryz.prog 199 #[v,.int .u64 (x:Int)] w fun e w'=>e=.returned (.bool (l.any fun s=>decide (x=s)))/\Qg w w':=by
 have HI:=Qq (Qmn x v l w h);have HE:=Qq (Wl (fun s=>decide (x=s)) l);clear h;obtain⟨z,hz⟩:∃z,z=Np (fun s=>decide (x=s)) l:=⟨_,rfl⟩;rw [<-hz]at HI HE;clear hz;go_enter Tryz.func199,Tryz.ntmps199;go_wp2_with(refine HI.out.mono ?_;rintro e w1 ⟨rfl,hx⟩);go_ret;exact⟨by rw [<-HE.out] <;> rfl,hx⟩
def Nl(r:List Nat)(s:Nat):Nat:=if Jo r.length r=0 then Vt r r.length s else 0
theorem Nx {r:List Nat}(h:Jo r.length r=0):r.length<=64:=by
 unfold Jo at h;split at h
 ·cases h
 omega
theorem Mo(v:Value)(r:List Nat)(s:Nat)(w:World)(h:Jn w v r)(hw:∀s∈r,Qm s)(hs:Qm s):
 Calls Tryz.prog 186 #[v,.int .u64 (s:Int)] w fun e w'=>e=.returned (.int .u64 ((Nl r s:Nat):Int))/\Qg w w':=by
 have H:=Qq h;obtain⟨A,c,rfl,_,_,HL⟩:=Vf h;have rV:=Qq hw;have HS:=Qq hs;clear h hw hs;by_cases zU:Jo r.length r=0
 ·have hn:=Nx zU;have HC:=Qq zU;have HB:=Qq (show Nl r s=Vt r r.length s by unfold Nl;rw [if_pos HC.out]);clear zU;obtain⟨n,zQ⟩:∃n,n=r.length:=⟨_,rfl⟩;have HN:=Qq zQ;go_enter Tryz.func186,Tryz.ntmps186;clear zQ;go_upto_region 1 with(fail);go_wp2_with(go_at_call 113;refine(Gb _ r _ H.out rV.out).mono ?_;rintro e w1 ⟨rfl,zN⟩;rw [HC.out];have zO:=Qq zN;clear zN);rw [<-HN.out];go_loopw [5,14] (fun vo vi wr=>∃k:Nat,vi=.int .i64 (k:Int)/\k<=n/\vo=.int .u64 ((Yi k (fun i=>Jr (r.getD i 0) s):Nat):Int)/\Hid (Qg w wr)) (fun _ v _=>n - (intOf v).toNat)
  case atStart=>exact⟨0,rfl,Nat.zero_le _,rfl,Qq zO.out⟩
  case round =>
   obtain⟨k,rfl,hk,rfl,HX⟩:=hrel;obtain⟨m,hm⟩:∃m,m=Yi k (fun i=>Jr (r.getD i 0) s):=⟨_,rfl⟩;have HM:=Qq hm;rw [<-hm];clear hm;by_cases hlt2:k < n
   ·have yV:(k:Int) < (n:Int):=by omega
    have wV:(k:Int) < (r.length:Int):=by rw [<-HN.out];exact yV
    have wI:k < 64:=by omega
    have vV:min k 64=k:=by omega
    obtain⟨ad,rfl,zV,hc⟩:=HL.out k (by rw [<-HN.out];exact hlt2);have a0:=(HX.out.cell (p:=ad.add k) (Qj zV)).trans hc;have al:(ad.add k).block < wr.heap.size:=by rw [Qr];exact Qy zV HX.out.size
    have hz:=Oa (Yx rV.out k) HS.out;have gV:=Qq (Bk k (fun i=>Jr (r.getD i 0) s));have aD:=Qq (Ep (s:=m) (k:=k) (by rw [HM.out];exact Fk (by omega) _) wI);obtain⟨x,hx⟩:∃x,x=r.getD k 0:=⟨_,rfl⟩;rw [<-hx]at a0 hz;have oO:=Qq hx;clear hc hx;cases hd:Jr x s
    ·rw [hd]at hz;have HP:=Qq (show Yi (k+1) (fun i=>Jr (r.getD i 0) s)=m by rw [gV.out,<-oO.out,hd,HM.out];rfl);clear hd;go_wp2_with fail;go_roundw
     case rel=>exact⟨k+1,by go_num,by omega,by rw [HP.out],HX⟩
     case measure=>simp [intOf];omega
    rw [hd]at hz;have HP:=Qq (show Yi (k+1) (fun i=>Jr (r.getD i 0) s)=m|||2^k by rw [gV.out,<-oO.out,hd,HM.out];rfl);have uW:=aD.out;clear hd;obtain⟨m2,xO⟩:∃m2,m2=m|||2^k:=⟨_,rfl⟩;rw [<-xO]at HP uW;clear xO;go_wp2_with fail;go_roundw
    case rel=>exact⟨k+1,by go_num,by omega,by rw [HP.out],HX⟩
    case measure=>simp [intOf];omega
   obtain rfl:n=k:=by omega
   go_wp2_with fail;go_ret;exact⟨by rw [HB.out,<-HN.out,show Vt r n s=m from HM.out.symm] <;> rfl,HX.out⟩
 have HC:=Qq zU;have HB:=Qq (show Nl r s=0 by unfold Nl;rw [if_neg HC.out]);obtain⟨ce,bC⟩:∃z,z=Jo r.length r:=⟨_,rfl⟩;rw [<-bC]at zU;have zQ:(ce !=0)=true:=by simpa using zU
 have GR:=Qq bC;clear zU bC;go_enter Tryz.func186,Tryz.ntmps186;go_wp2_with(go_at_call 113;refine(Gb _ r _ H.out rV.out).mono ?_;rintro e w1 ⟨rfl,zN⟩;rw [<-GR.out];have zO:=Qq zN;clear zN);go_ret;exact⟨by rw [HB.out] <;> rfl,zO.out⟩
theorem Bp {P:Program} {fn:Func} {t:Tmp} {ty:TypeId}(h:fn.results=#[.cell t ty])(tmps:Array Value)(w:World) {a:Addr} {v:Value} {d:TypeDesc}(ht:tmps.getD t undef=.pointer (some a))(hc:w.cell? a=some v)
 (hu:P.underlying ty=some d)(hd:(match d with| .struct _| .array _ _=>true|_=>false)=false):(results fn tmps).run P w=.ok v w:=by
 have lO:tmps[t]?.getD undef=.pointer (some a):=by simpa using ht
 have DF:(isAgg ty).run P w=.ok false w:=by
  unfold isAgg;rw [Sem.run_bind,run_underlying hu w];cases d <;> simp_all
 simp [results,h,lO,asAddr,loadVar,Sem.run_bind,DF,hc]
open Classical in
noncomputable def Uf (q:Int) (l:List Nat):Bool:=decide (Kg q l)
theorem Ov {q:Int} {l:List Nat} :Uf q l=true↔Kg q l:=by
 unfold Uf;exact @decide_eq_true_iff _ (Classical.propDecidable _)
theorem Qh3(l:List Nat):Uf 1 l= !(l.any fun s=>decide (0=s)):=by
 rw [Bool.eq_iff_iff,Ov,Bool.not_eq_true',List.any_eq_false];unfold Kg;rw [if_pos rfl];constructor
 ·intro h s hs e;obtain⟨i,hi,rfl⟩:=List.getElem_of_mem hs;have:=h i hi;rw [Qk,Qv hi]at this;exact this (of_decide_eq_true e).symm
 intro h i hi e;rw [Qk,Qv hi]at e;exact h _ (List.getElem_mem hi) (decide_eq_true e.symm)
theorem Qe4(v:Value)(l:List Nat)(w:World)(h:Jn w v l)(hw:∀s∈l,Qm s)(zU:Jo l.length l=0):
 Calls Tryz.prog 166 #[v,.int .i64 1] w fun e w'=>e=.returned (.bool (Uf 1 l))/\Qg w w':=by
 have H:=Qq h;have HW:=Qq hw;have yD:=Qq zU;have HP:=Qq (Qh3 l);obtain⟨A,c,rfl,_⟩:=h;obtain⟨pb,qM⟩:∃b,b=(l.any fun s=>decide (0=s)):=⟨_,rfl⟩;have jH:=Qq (fun w h=>Qbo 0 (.slice A l.length c) l w h);rw [<-qM]at HP jH;have zL:=Qq (show Qg w ((w.alloc (.cells #[.slice A l.length c] 23)).alloc (.cells #[.bool false] 4))from(Qz.alloc _).alloc _);have wL:=Qq ((Boxed.new w 23 (.slice A l.length c)).alloc (.cells #[.bool false] 4));have wT:=Qq (show Boxed ((w.alloc (.cells #[.slice A l.length c] 23)).alloc (.cells #[.bool false] 4)) (w.heap.size+1) 4 (.bool false) by
  have:=Boxed.new (w.alloc (.cells #[.slice A l.length c] 23)) 4 (.bool false);rw [World.size_alloc]at this;exact this)
 clear hw zU qM;go_enter Tryz.func166,Tryz.ntmps166;go_upto_region 1 with(fail);go_wp2_with(first|(go_at_call 113;refine(Gb _ l _ (H.out.ext zL.out) HW.out).mono ?_;rintro e w2 ⟨rfl,zS⟩;rw [yD.out];have xA:Boxed w2 w.heap.size 23 (.slice A l.length c):=(zS.block wL.out.lt).trans wL.out;have vH:Boxed w2 (w.heap.size+1) 4 (.bool false):=(zS.block wT.out.lt).trans wT.out;have zT:=Qq (zL.out.trans zS);have c2:=xA.cell;have c3:=vH.cell;have f3:=vH.frozen;have rG:=Qq xA;have rF:=Qq vH;clear zS xA vH)|(go_at_call 199;refine(jH.out _ (H.out.ext zT.out)).mono ?_;rintro e w4 ⟨rfl,yA⟩;have iF:=Qq (show Boxed w4 (w.heap.size+1) 4 (.bool false)from(yA.block rF.out.lt).trans rF.out);have yP:=Qq (zT.out.trans yA);have c4:=iF.out.cell;have f4:=iF.out.frozen;clear yA))
 refine bodyPost_ret (Bp Tryz.results166 _ _ rfl (iF.out.set _).cell Tryz.underlying4 rfl) rfl ?_;exact⟨by rw [HP.out] <;> rfl,yP.out.setCell (p:=⟨w.heap.size+1,0,none⟩) (by show w.heap.size<=w.heap.size+1;omega) _⟩
theorem Qn6 {s:Nat}(hs:Qm s)(k:Nat):(bits .and .u64 ((s:Int) / 2^k) 1==0)= !s.testBit k:=by
 have e:((s:Int) / 2^k)=((s / 2^k:Nat):Int):=by rw [Int.natCast_ediv,Int.natCast_pow];rfl
 rw [e,show(1:Int)=((1:Nat):Int)from rfl,Xk (Nat.lt_of_le_of_lt (Nat.div_le_self _ _) hs) (by show(1:Nat) < _;omega),Nat.and_one_is_mod,Nat.testBit_eq_decide_div_mod_eq];generalize s / 2^k=r;rw [Bool.eq_iff_iff,beq_iff_eq,Bool.not_eq_true',decide_eq_false_iff_not];omega
theorem Qf0(l:List Nat):Uf 2 l=true↔∀i,i < l.length->(l.getD i 0).testBit i=true:=by
 rw [Ov];unfold Kg;rw [if_neg (by decide),if_pos rfl];exact Iff.rfl
theorem Oi {q:Int} {l:List Nat}(h:¬Uf q l=true):Uf q l=false:=by
 cases e:Uf q l
 ·rfl
 exact absurd e h
theorem Qe5(v:Value)(l:List Nat)(w:World)(h:Jn w v l)(hw:∀s∈l,Qm s)(zU:Jo l.length l=0):
 Calls Tryz.prog 166 #[v,.int .i64 2] w fun e w'=>e=.returned (.bool (Uf 2 l))/\Qg w w':=by
 have H:=Qq h;have HW:=Qq hw;have yD:=Qq zU;have rI:=Nx zU;obtain⟨A,c,rfl,_,_,HA⟩:=Vf h;have zL:=Qq (show Qg w ((w.alloc (.cells #[.slice A l.length c] 23)).alloc (.cells #[.bool false] 4))from(Qz.alloc _).alloc _);have wL:=Qq ((Boxed.new w 23 (.slice A l.length c)).alloc (.cells #[.bool false] 4));have wT:=Qq (show Boxed ((w.alloc (.cells #[.slice A l.length c] 23)).alloc (.cells #[.bool false] 4)) (w.heap.size+1) 4 (.bool false) by
  have:=Boxed.new (w.alloc (.cells #[.slice A l.length c] 23)) 4 (.bool false);rw [World.size_alloc]at this;exact this)
 clear hw zU h;go_enter Tryz.func166,Tryz.ntmps166;go_wp2_with(go_at_call 113;refine(Gb _ l _ (H.out.ext zL.out) HW.out).mono ?_;rintro e w2 ⟨rfl,zS⟩;rw [yD.out];have xA:Boxed w2 w.heap.size 23 (.slice A l.length c):=(zS.block wL.out.lt).trans wL.out;have vH:Boxed w2 (w.heap.size+1) 4 (.bool false):=(zS.block wT.out.lt).trans wT.out;have zT:=Qq (zL.out.trans zS);have c2:=xA.cell;have c3:=vH.cell;have f3:=vH.frozen;have rG:=Qq xA;have rF:=Qq vH;clear zS xA vH);go_loopw [24] (fun vi wr=>∃k:Nat,vi=.int .i64 (k:Int)/\k<=l.length/\Hid (wr=w2/\∀i,i < k->(l.getD i 0).testBit i=true)) (fun v _=>l.length - (intOf v).toNat)
 case atStart=>exact⟨0,rfl,Nat.zero_le _,Qq ⟨rfl,fun i hi=>absurd hi (Nat.not_lt_zero _)⟩⟩
 case round =>
  obtain⟨k,rfl,hk,HR⟩:=hrel;obtain rfl:=HR.out.1;by_cases hlt2:k < l.length
  ·have yV:(k:Int) < (l.length:Int):=by omega
   have cV:min k 64=k:=by omega
   obtain⟨ad,rfl,zV,yU⟩:=HA.out k hlt2;have a0:=(zT.out.cell (p:=ad.add k) (Qj zV)).trans yU;have mX:=Qq (Bj HW.out k);have tC:=Qn6 mX.out k;obtain⟨t,ht⟩:∃t,t=(l.getD k 0).testBit k:=⟨_,rfl⟩;have HT:=Qq ht;obtain⟨z,hz⟩:∃z,z=l.getD k 0:=⟨_,rfl⟩;rw [<-ht,<-hz]at tC;rw [<-hz]at a0;clear ht hz yU;cases t
   ·have HE:=Qq (Oi fun h=>by have:=(Qf0 l).1 h k hlt2;rw [<-HT.out]at this;cases this);go_wp2_with fail;refine bodyPost_ret (Bp Tryz.results166 _ _ rfl (rF.out.set _).cell Tryz.underlying4 rfl) rfl ?_;exact⟨by rw [HE.out] <;> rfl,zT.out.setCell (p:=⟨w.heap.size+1,0,none⟩) (by show w.heap.size<=w.heap.size+1;omega) _⟩
   have HN:=Qq (show ∀i,i < k+1->(l.getD i 0).testBit i=true from fun i hi=>by
    by_cases e:i < k
    ·exact HR.out.2 i e
    obtain rfl:i=k:=by omega
    exact HT.out.symm)
   go_wp2_with fail;go_roundw
   case rel=>exact⟨k+1,by go_num,by omega,Qq ⟨trivial,HN.out⟩⟩
   case measure=>simp [intOf];omega
  obtain rfl:l.length=k:=by omega
  have HE:=Qq ((Qf0 l).2 HR.out.2);go_wp2_with fail;refine bodyPost_ret (Bp Tryz.results166 _ _ rfl (rF.out.set _).cell Tryz.underlying4 rfl) rfl ?_;exact⟨by rw [HE.out] <;> rfl,zT.out.setCell (p:=⟨w.heap.size+1,0,none⟩) (by show w.heap.size<=w.heap.size+1;omega) _⟩
def Iy:Prop:=∀(v:Value) (l:List Nat) (q:Int) (w:World),Kb w->Jn w v l->(∀s∈l,Qm s)->Jo l.length l=0->0 < l.length->(q=1\/q=2\/q=4\/q=5)->
 Calls Tryz.prog 166 #[v,.int .i64 q] w fun e w'=>e=.returned (.bool (Uf q l))/\Qg w w'
theorem Qw2(iV:Iy)(B:Nat)(v:Value)(l:List Nat)(q:Int)(w:World)(hT:Kb w)(h:Jn w v l)(hw:∀s∈l,Qm s)(zU:Jo l.length l=0)(h0:0 < l.length)(hq:q=1\/q=2\/q=4\/q=5)(hb:w.cell? ⟨B,0,none⟩=some v):
 Calls Tryz.prog 165 #[.int .i64 q,.pointer (some ⟨B,0,none⟩)] w fun e w'=>e=.returned (.bool (!Uf q l))/\Qg w w':=by
 have HS:=Qq (iV v l q w hT h hw zU h0 hq);obtain⟨A,c,rfl,_⟩:=h;obtain⟨pb,qM⟩:∃b,b=Uf q l:=⟨_,rfl⟩;rw [<-qM]at HS⊢;clear iV hT hw zU h0 hq qM;go_enter Tryz.func165,Tryz.ntmps165;go_wp2_with fail;refine HS.out.mono ?_;rintro e w1 ⟨rfl,hx⟩;have HX:=Qq hx;clear hx;go_wp2_with fail;go_ret;exact⟨rfl,HX.out⟩
noncomputable def Li (lg:Int) (l:List Nat):Bool:= !((Gd lg).any fun q=> !Uf q l)
theorem Qcb {lg:Int} {l:List Nat} :Li lg l=true↔Dm lg l:=by
 unfold Li Dm;rw [Bool.not_eq_true',List.any_eq_false];refine forall_congr' fun q=>imp_congr_right fun _=> ?_
 unfold Uf;simp
theorem Zzq(iV:Iy)(v:Value)(l:List Nat)(lg:Int)(w:World)(hT:Kb w)(h:Jn w v l)(hw:∀s∈l,Qm s)(zU:Jo l.length l=0)(h0:0 < l.length)(xX:0<=lg/\lg<=6):
 Calls Tryz.prog 101 #[v,.int .i64 lg] w fun e w'=>e=.returned (.bool (Li lg l))/\Qg w w':=by
 have H:=Qq h;have HT:=Qq hT;have HW:=Qq hw;have yD:=Qq zU;have HP:=Qq (show Is lg=0 from if_pos xX);have kR:=Qq (show Li lg l= !((Gd lg).any fun q=> !Uf q l)from rfl);have HC:=Qq (fun(B:Nat) (vp:Value) (w:World) (hT:Kb w) (hi:Dn w vp (Gd lg)) (hl:Jn w v l) (hB:B < w.heap.size) (hb:w.cell? ⟨B,0,none⟩=some v)=>
  Qgr 165 #[.pointer (some ⟨B,0,none⟩)] (fun _ _=>rfl) (fun q=> !Uf q l) vp (Gd lg) w hi
   (fun W q hq hx=>Qw2 iV B v l q W (hT.ext hx) (hl.ext hx) hw zU h0 (Qjo hq) ((hx.cell (p:=⟨B,0,none⟩) hB).trans hb)))
 obtain⟨A,c,rfl,_⟩:=h;obtain⟨pb,qM⟩:∃b,b=(Gd lg).any fun q=> !Uf q l:=⟨_,rfl⟩
 rw [<-qM]at HC kR;clear iV hT hw zU xX qM;go_enter Tryz.func101,Tryz.ntmps101;go_wp2_with(first|(go_at_call 98;refine(Hr lg _).mono ?_;rintro e w1 ⟨vp,rfl,zN,WD⟩;rw [HP.out];have zO:=Qq (((Qg.refl w).alloc _).trans zN);have HV:=Qq (WD.out HP.out);have xV:w1.cell? ⟨w.heap.size,0,none⟩=some (.slice A l.length c):=(zN.cell (p:=⟨w.heap.size,0,none⟩) (by simp)).trans (by simp);have yS:w.heap.size < w1.heap.size:=Qy (by simp) zN.size;clear zN WD)|(go_at_call 113;refine(Gb _ l _ (H.out.ext zO.out) HW.out).mono ?_;rintro e w2 ⟨rfl,zS⟩;rw [yD.out];have zT:=Qq (zO.out.trans zS);have C8:=Qq (HV.out.ext zS);have tB:=(zS.cell (p:=⟨w.heap.size,0,none⟩) yS).trans xV;have xA:=Qy yS zS.size;clear zS)|(go_at_call 164;refine(HC.out w.heap.size _ _ (HT.out.ext zT.out) C8.out (H.out.ext zT.out) xA tB).mono ?_;rintro e w3 ⟨rfl,zC⟩;have zB:=Qq (zT.out.trans zC);clear zC))
 go_ret;exact⟨by rw [kR.out] <;> rfl,zB.out⟩
theorem Zzz(iV:Iy)(B:Nat)(v:Value)(l:List Nat)(lg:Int)(w:World)(hT:Kb w)(h:Jn w v l)(hw:∀s∈l,Qm s)(zU:Jo l.length l=0)(h0:0 < l.length)(xX:0<=lg/\lg<=6)(hb:w.cell? ⟨B,0,none⟩=some (.int .i64 lg)):
 Calls Tryz.prog 100 #[v,.pointer (some ⟨B,0,none⟩)] w fun e w'=>e=.returned (.bool (!Li lg l))/\Qg w w':=by
 have HS:=Qq (Zzq iV v l lg w hT h hw zU h0 xX);obtain⟨A,c,rfl,_⟩:=h;obtain⟨pb,qM⟩:∃b,b=Li lg l:=⟨_,rfl⟩;rw [<-qM]at HS⊢;clear iV hT hw zU h0 xX qM;go_enter Tryz.func100,Tryz.ntmps100;go_wp2_with fail;refine HS.out.mono ?_;rintro e w1 ⟨rfl,hx⟩;have HX:=Qq hx;clear hx;go_wp2_with fail;go_ret;exact⟨rfl,HX.out⟩
noncomputable def inB (md:Md) (lg:Int):Bool:= !(md.rel.any fun r=> !Li lg r)
theorem Zyl(iV:Iy)(vm:Value)(md:Md)(lg:Int)(w:World)(hT:Kb w)(hm:Jk w vm md)(zP:md.ok)(zU:Qa md=0)(xX:0<=lg/\lg<=6):
 Calls Tryz.prog 39 #[vm,.int .i64 lg] w fun e w'=>e=.returned (.bool (inB md lg))/\Qg w w':=by
 have HM:=Qq hm;have HT:=Qq hT;have zE:=Qq zP;have yD:=Qq zU;have HP:=Qq (show Is lg=0 from if_pos xX);have kR:=Qq (show inB md lg= !(md.rel.any fun r=> !Li lg r)from rfl);have hz:=Zv zU;have wQ:=Qtd zU;have HR:Hid (∀r∈md.rel,Jo r.length r=0/\0 < r.length):=Qq fun r hr=>by
  have hl:=hz.2.2.2.2.1 r hr;exact⟨Hy (by omega) (by omega) (wQ r hr),by omega⟩
 have HC:=Qq (fun(B:Nat) (vp:Value) (w:World) (hT:Kb w) (hi:Px w vp md.rel) (hB:B < w.heap.size) (hb:w.cell? ⟨B,0,none⟩=some (.int .i64 lg))=>
  Qzl 100 #[.pointer (some ⟨B,0,none⟩)] (fun _ _=>rfl) (fun r=> !Li lg r) vp md.rel w hi
   (fun W u r hr hx hu=>Zzz iV B u r lg W (hT.ext hx) hu (zP.rel r hr) (HR.out r hr).1 (HR.out r hr).2 xX ((hx.cell (p:=⟨B,0,none⟩) hB).trans hb)))
 obtain⟨vv,vr,rfl,hv,hr⟩:=hm;have F9:=Qq hr;obtain⟨pb,qM⟩:∃b,b=(md.rel.any fun r=> !Li lg r):=⟨_,rfl⟩;rw [<-qM]at HC kR;clear iV hT zP zU hz wQ xX qM hv hr;go_enter Tryz.func39,Tryz.ntmps39;go_wp2_with(first|(go_at_call 98;refine(Hr lg _).mono ?_;rintro e w1 ⟨vp,rfl,zN,WD⟩;rw [HP.out];have zO:=Qq ((((Qg.refl w).alloc _).alloc _).trans zN);have oX:w1.cell? ⟨w.heap.size,0,none⟩=some (.int .i64 md.n):=(zN.cell (p:=⟨w.heap.size,0,none⟩) (by simp;omega)).trans (by simp);have uS:w1.cell? ⟨w.heap.size,1,none⟩=some vv:=(zN.cell (p:=⟨w.heap.size,1,none⟩) (by simp;omega)).trans (by simp);have xO:w1.cell? ⟨w.heap.size,2,none⟩=some vr:=(zN.cell (p:=⟨w.heap.size,2,none⟩) (by simp;omega)).trans (by simp);have qU:w1.cell? ⟨w.heap.size+1,0,none⟩=some (.int .i64 lg):=(zN.cell (p:=⟨w.heap.size+1,0,none⟩) (by simp)).trans (by simp);have yS:w.heap.size+1 < w1.heap.size:=Qy (by simp) zN.size;clear zN WD)|(go_at_call 93;refine(Xa _ md _ (HM.out.ext zO.out) zE.out).mono ?_;rintro e w2 ⟨rfl,zS⟩;rw [yD.out];have zT:=Qq (zO.out.trans zS);have tB:=(zS.cell (p:=⟨w.heap.size,2,none⟩) (by show w.heap.size < _;omega)).trans xO;have qN:=(zS.cell (p:=⟨w.heap.size+1,0,none⟩) yS).trans qU;have xA:=Qy yS zS.size;clear zS)|(go_at_call 99;refine(HC.out (w.heap.size+1) _ _ (HT.out.ext zT.out) (F9.out.ext zT.out) xA qN).mono ?_;rintro e w3 ⟨rfl,zC⟩;have zB:=Qq (zT.out.trans zC);clear zC))
 go_ret;exact⟨by rw [kR.out] <;> rfl,zB.out⟩
theorem Qnj {md:Md} {lg:Int} :inB md lg=true↔∀r∈md.rel,Dm lg r:=by
 unfold inB;rw [Bool.not_eq_true',List.any_eq_false];refine forall_congr' fun r=>imp_congr_right fun _=> ?_
 rw [<-Qcb];cases Li lg r <;> simp
theorem Qwz {md:Md} {lg:Int}(zU:Qa md=0)(xX:0<=lg/\lg<=6)(h:inB md lg=true):Fw md lg:=by
 exact⟨xX,zU,Qnj.1 h⟩
end Go.Proofs.YtkmclcmnoicagaaGreatDoor
