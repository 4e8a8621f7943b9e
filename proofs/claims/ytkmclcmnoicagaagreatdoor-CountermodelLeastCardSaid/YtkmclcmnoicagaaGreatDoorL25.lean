/- types' baseOf: the walk. -/
import Derived.Test.YtkmclcmnoicagaaGreatDoorL24
namespace Go.Proofs.YtkmclcmnoicagaaGreatDoor
set_option maxRecDepth 100000
set_option maxHeartbeats 128000000
open Go.RowKit
def Qbm(m:Nat)(v:Value):Prop:=∀g,v.ownBlock=some g->m<=g
theorem Qbm.next {m N:Nat} {v v':Value}(h:Qbm m v)(hm:m<=N)(yL:v'.ownBlock=v.ownBlock\/v'.ownBlock=some N):Qbm m v':=fun g hg=>by
 rcases yL with e|e
 ·exact h g (e▸hg)
 rw [e]at hg;injection hg with hg;omega
theorem Qoi {m B:Nat} {w W:World} {vo x:Value}(hx:∀g,x.ownBlock=some g->g < w.heap.size/\m<=g)(hB:w.heap.size<=B)(hv:Qbm B vo)(he:w.heap.size<=W.heap.size):He m W vo x:=fun g hg=>by
 obtain⟨h1,h2⟩:=hx g hg;exact⟨by omega,fun e=>by have:=hv g e;omega,h2⟩
theorem Qfi {c:List Nd}(h:(Qw c).op=13)(q:Nat):Qml (q:Int) c=Ul q c:=by
 unfold Qml Ul Uv Dw;rw [h];rfl
theorem Qpl {l:List (List Nd)} {k:Nat} {s:List Nd}(h:l[k]?=some s):(l.take (k+1)).filter (fun s=>Jm (Qw s))=(l.take k).filter (fun s=>Jm (Qw s))++(bif Jm (Qw s)then [s]else []):=by
 rw [Kx h,List.filter_append,List.filter_cons];cases Jm (Qw s) <;> rfl
def Qr6(wi:World)(r:List (List Nd)×Int)(e:Ending)(w':World):Prop:=∃u,e=.returned (.tuple #[u,.int .i64 r.2])/\Qg wi w'/\Kq wi w' u r.1
theorem Qtt(v:Value)(t:Tr)(w:World)(ht:Xf t)(h:Jo w v (Qr t)):
 Calls Tryz.prog 57 #[v] w (Qr6 w (Ka (Qr t))):=by
 have H:=Qq h;have HT:=Qq ht;obtain⟨iI,pO,vO,vN,vM⟩:=info_parts Qgs;obtain⟨A,c,rfl,_⟩:=Qc h;obtain⟨sl,oD⟩:∃b,b=Qyl (Qr t):=⟨_,rfl⟩;have BV:sl.length<=200:=by rw [oD,ht.subs];simpa using ht.len
 have KO:=Qq oD;have oZ:=Qq (show ∀s∈sl,∃u,Xf u/\s=Qr u by
  rw [oD,ht.subs];intro s hs;obtain⟨i,hi,rfl⟩:=List.mem_map.1 hs;exact⟨_,ht.at (List.mem_range.1 hi),rfl⟩)
 clear h ht oD;go_enter Tryz.func57,Tryz.ntmps57;go_wp2_with fail;refine(Qwp _ (Qr t) _ H.out HT.out.check).mono ?_;rintro e w1 ⟨uc,rfl,pL⟩;rw [<-KO.out]at pL;have jY:=Qq pL;obtain⟨As,cs,rfl,xU,yP,zN⟩:=pL.fmls;have uJ:=Qq zN;unfold maxLen at yP;have FP:=Qq pL.row;clear pL zN;go_wp2_with fail;go_loopw [4,19] (fun vo vi wr=>∃k:Nat,vi=.int .i64 (k:Int)/\k<=sl.length/\Hid (∃ol,ol=(sl.take k).filter (fun s=>Jm (Qw s))/\Kq w wr vo ol/\Qg w1 wr/\Qbm w1.heap.size vo)) (fun _ v _=>sl.length - (intOf v).toNat)
 case atStart=>exact⟨0,rfl,Nat.zero_le _,Qq ⟨[],rfl,(Kq.nil _).before jY.out.ext,Qz,fun g hg=>by cases hg⟩⟩
 case round =>
  obtain⟨k,rfl,hk,zY⟩:=hrel;obtain⟨ol,tJ,xJ,hx,pP⟩:=zY.out;obtain⟨us,zR,tQ⟩:=xJ.row;obtain⟨Ao,co,rfl⟩:=Qs zR;have qC:=Qq tJ;have wY:=Qq xJ;have yS:=Qq zR;have mE:=Qq tQ;have HX:=Qq hx;have lQ:=Qq pP;have TT:ol.length<=200:=by
   rw [tJ];refine Qx (List.length_filter_le _ _) ?_;rw [List.length_take];omega
  clear zY tJ xJ zR tQ hx pP;by_cases hlt2:k < sl.length
  ·have yT:(k:Int) < (sl.length:Int):=by omega
   obtain⟨s,hs⟩:∃s,sl[k]?=some s:=⟨_,Qv hlt2⟩;obtain⟨ad,rfl,zA,zJ⟩:=uJ.out (by intro e;rw [e]at hlt2;simp at hlt2);obtain⟨u,hu,hf⟩:=zJ k s hs;have a0:=(HX.out.cell (p:=ad.add k) (Qj zA)).trans hu;have tN:(ad.add k).block < wr.heap.size:=by rw [Qt];exact Qy zA HX.out.size
   have HF:=Qq (hf.ext HX.out);have HS:=Qq hs;obtain⟨su,XS,ZW⟩:=oZ.out s (List.mem_of_getElem? hs);have qW:0 < s.length:=by rw [ZW];exact Uj XS.xp.1.1
   obtain⟨Au,cu,rfl,_⟩:=Qc hf;have bQ:=Qq (show ∀g,(Value.slice Au s.length cu).ownBlock=some g->g < w1.heap.size/\w.heap.size<=g by
    obtain⟨us0,dM,JM⟩:=FP.out;obtain⟨u',hu',_,YP⟩:=JM k s hs;have h0:0 < sl.length:=by omega
    obtain⟨g',cap',e',_,_,_,jQ⟩:=Pf dM h0;injection e' with e1 _ _;injection e1 with e1;subst e1;have yO:=jQ k u' hu';rw [show((⟨g',0,none⟩:Addr).add k)=⟨g',k,none⟩from Fm g' k]at hu;rw [yO]at hu;injection hu with hu;subst hu;exact fun g hg=>⟨(YP g hg).1,(YP g hg).2.2⟩)
   clear hs zJ hf hu XS ZW;obtain⟨wq,vE⟩:∃v,v=wr:=⟨_,rfl⟩;subst vE;go_wp2_with fail;refine(Ig _ s _ HF.out qW).mono ?_;rintro e w2 ⟨u1,u2,rfl,zT,nL,rI⟩;have zS:=Qq zT;obtain⟨n,hn⟩:∃n,n=Qw s:=⟨_,rfl⟩;rw [<-hn];have HN:=Qq hn;unfold Nd.val;obtain⟨A1,c1,rfl,_⟩:=Qc nL;obtain⟨A2,c2,rfl,_⟩:=Qc rI;clear zT nL rI hn;have yZ:=Qq (show Qg wq (w2.alloc (.cells #[.int .i64 n.op,.int .i64 n.i,.int .i64 n.e,.int .i64 n.g,.int .i64 n.x,.int .i64 n.y] 71))from zS.out.alloc _);have wL:=Qq (Qpl HS.out);rw [<-HN.out,<-qC.out]at wL;rcases Qkw n with zK|⟨t3,t9,t13⟩
   ·have hb:=Qq (show Jm n=true by unfold Jm;rcases zK with e|e|e <;> rw [e] <;> rfl);have xS:ol.length+1<=maxLen:=by unfold maxLen;omega
    have xR:(ol.length+1)*24<=140737488355328:=by omega
    have SI:=Qq (show((n.op==3)=true)\/((n.op==3)=false/\(n.op==9)=true)\/((n.op==3)=false/\(n.op==9)=false/\(n.op==13)=true) by rcases zK with e|e|e <;> rw [e] <;> simp);clear zK;rcases SI.out with t3|⟨t3,t9⟩|⟨t3,t9,t13⟩
    all_goals
     go_wp2_with(at_builtin;refine wpList_append_own_at _ rfl _ _ 32 rfl w.heap.size 22 iI (.slice none 0 0) 1 24 Tryz.underlying32 pO vO vN vM rfl (by decide) _ ol.length us rfl (Zk yS.out (yZ.out.alloc _)) ⟨_,0,none⟩ 1 1 [.slice Au s.length cu] rfl rfl (Zt _ _ _ (by simp)) (fun u hu=>by rw [List.mem_singleton.1 hu];rfl) xS xR (Qx wY.out.ext.size (yZ.out.alloc _).size) ?_);intro v7 w7 zW zX _ zH;have IS:=Qq (lQ.out.next (by have:=HX.out.size;have:=yZ.out.size;simp at this;omega) zH);have qY:=Qq (Qg.grown (HX.out.trans (yZ.out.alloc (.cells #[.slice Au s.length cu] 22))) zX lQ.out)
     have pV:=Qq (Kq.push (s:=s) ((wY.out.ext.trans yZ.out).alloc _) (Zk yS.out (yZ.out.alloc _)) (fun k s hk=>by
      obtain⟨u,a,b,c⟩:=mE.out k s hk;exact⟨u,a,b.ext (yZ.out.alloc _),c.ext (yZ.out.alloc _)⟩) zW zX (zH.imp id (fun e=>e.trans (by simp))) (HF.out.ext (yZ.out.alloc _)) (Qoi bQ.out (Nat.le_refl _) lQ.out (Qx HX.out.size (yZ.out.alloc _).size)))
     obtain⟨A7,c7,rfl⟩:=Qs zW;clear zW zX zH;go_wp2_with fail;go_roundw
     case rel=>exact⟨k+1,by go_num,by omega,Qq ⟨_,by rw [wL.out,hb.out];rfl,pV.out,qY.out,IS.out⟩⟩
     case measure=>simp [intOf];omega
   have hb:=Qq (show Jm n=false by unfold Jm;rw [t3,t9,t13];rfl);go_wp2_with fail;go_roundw
   case rel=>exact⟨k+1,by go_num,by omega,Qq ⟨_,by rw [wL.out,hb.out];exact(List.append_nil _).symm,wY.out.ext_ yZ.out,HX.out.trans yZ.out,lQ.out⟩⟩
   case measure=>simp [intOf];omega
  obtain rfl:sl.length=k:=by omega
  obtain⟨l0,rF⟩:∃l,l=Yt (Qr t):=⟨_,rfl⟩;have uL:=Qq rF;have PM:=Qq (show ol=l0 by rw [qC.out,rF,List.take_of_length_le (Nat.le_refl _),KO.out];rfl);clear rF;go_wp2_with fail;go_loopw [4,10] (fun vo vi wr=>∃k:Nat,vi=.int .i64 (k:Int)/\k<=12/\Hid (∃ol,ol=(Cj l0 k).foldl Gl l0/\(∀u∈Cj l0 k,u.length≠0)/\k<=ol.length/\ol.length<=216/\Kq w wr vo ol)) (fun _ v _=>13 - (intOf v).toNat)
  case atStart=>exact⟨0,rfl,Nat.zero_le _,Qq ⟨ol,PM.out,(fun u hu=>by cases hu),Nat.zero_le _,by omega,wY.out⟩⟩
  case round =>
   clear qC wY yS mE HX lQ PM TT;obtain⟨k,rfl,hk,zY⟩:=hrel;obtain⟨ol,tJ,zQ,xD,TT,xJ⟩:=zY.out;have qC:=Qq tJ;have jW:=Qq zQ;have wY:=Qq xJ;obtain⟨Ao,co,rfl⟩:=Qs xJ.row.choose_spec.1;clear zY tJ zQ xJ;by_cases hlt2:k < ol.length
   ·have yT:(k:Int) < (ol.length:Int):=by omega
    by_cases h12:12 < ol.length
    ·have OL:(12:Int) < (ol.length:Int):=by omega
     have HB:=Qq (show Ka (Qr t)=([],8)from Qke (.inr (by rw [<-uL.out];exact Qm0 (k:=k) (by rw [<-qC.out];exact h12))));go_wp2_with fail;go_ret2;exact⟨.slice none 0 0,by rw [HB.out] <;> rfl,wY.out.ext,by rw [HB.out];exact(Kq.nil _).before wY.out.ext⟩
    have OL:(ol.length:Int)<=12:=by omega
    obtain⟨s,hs⟩:∃s,ol[k]?=some s:=⟨_,Qv hlt2⟩;obtain⟨g0,cap0,oD,wQ,yD⟩:=wY.out.slice (by omega);injection oD with hsl1 _ wF;subst hsl1 wF;unfold maxLen at yD;obtain⟨u,hu,hf,xP⟩:=wY.out.get hs;have HF:=Qq hf;have bN:=Qq (Qm1 HT.out (k:=k) (ol:=ol) (c:=s) (by rw [<-uL.out];exact qC.out) (by rw [<-uL.out];exact jW.out) hs);have HS:=Qq hs;obtain⟨su,XS,ZW⟩:=bN.out.2;have qW:0 < s.length:=by rw [ZW];exact Uj XS.xp.1.1
    have lN:=Qq (show Za (Qw s) by
     have zU:=XS.check;rw [<-ZW]at zU;exact Rw zU _ (List.mem_of_getElem? (Lx qW)))
    obtain⟨Au,cu,rfl,_⟩:=Qc hf;clear hs hf XS ZW;obtain⟨wq,vE⟩:∃v,v=wr:=⟨_,rfl⟩;subst vE;go_wp2_with fail;refine(Ig _ s _ HF.out qW).mono ?_;rintro e w2 ⟨u1,u2,rfl,zT,nL,rI⟩;have zS:=Qq zT;obtain⟨n,hn⟩:∃n,n=Qw s:=⟨_,rfl⟩;rw [<-hn];have HN:=Qq hn;unfold Nd.val;obtain⟨A1,c1,rfl,_⟩:=Qc nL;obtain⟨A2,c2,rfl,_⟩:=Qc rI;clear zT nL rI hn;go_wp2_with fail;have uP:g0 < w2.heap.size:=Qy xP zS.out.size;obtain⟨W0,zB⟩:∃v,v=w2.alloc (.cells #[.int .i64 n.op,.int .i64 n.i,.int .i64 n.e,.int .i64 n.g,.int .i64 n.x,.int .i64 n.y] 71):=⟨_,rfl⟩;have XI:=Qq (show W0.heap[w2.heap.size]?=some (.cells #[.int .i64 n.op,.int .i64 n.i,.int .i64 n.e,.int .i64 n.g,.int .i64 n.x,.int .i64 n.y] 71 (0,0)) by rw [zB];exact heap_alloc_new _ _)
    have yZ:=Qq (show Qg wq W0 by rw [zB];exact zS.out.alloc _);rw [<-zB];clear zB;by_cases zK:n.op=13
    ·have jM:=Qvw (by rw [HN.out];exact lN.out) (.inr zK);obtain⟨gn,wC⟩:=Int.eq_ofNat_of_zero_le jM.1;have UM:gn < 16:=by omega
     have nB:=Qq wC;have eN:(n.op !=13)=false:=by rw [zK];rfl
     have xX:=Qq (show(Qw s).op=13 by rw [<-HN.out];exact zK);rw [wC]at XI;clear jM wC zK;go_loopw [4,65] (fun vo vi wr=>∃q:Nat,vi=.int .i64 (q:Int)/\q<=4/\Hid (∃ol2,ol2=(Tm s q).foldl Gl ol/\(∀u∈Tm s q,u.length≠0)/\ol2.length<=ol.length+q/\Kq w wr vo ol2/\Qg w wr/\wr.heap[w2.heap.size]?=some (.cells #[.int .i64 n.op,.int .i64 n.i,.int .i64 n.e,.int .i64 (gn:Int),.int .i64 n.x,.int .i64 n.y] 71 (0,0))/\vo.ownBlock≠some w2.heap.size)) (fun _ v _=>4 - (intOf v).toNat)
     case atStart=>exact⟨0,rfl,Nat.zero_le _,Qq ⟨ol,by rw [Qfo];rfl,(by intro u hu;rw [Qfo]at hu;cases hu),Nat.le_refl _,wY.out.ext_ yZ.out,wY.out.ext.trans yZ.out,XI.out,(fun e=>by injection e with e;simp at e;omega)⟩⟩
     case round =>
      obtain⟨q,rfl,hq,YW⟩:=hrel;obtain⟨ol2,dR,iD,MQ,UP,cY,eK,MH⟩:=YW.out;obtain⟨us2,sP,dD⟩:=UP.row;have WK:=Qq dR;have WN:=Qq iD;have wN:=Qq UP;have wM:=Qq sP;have VT:=Qq dD;have fW:=Qq eK;have fI:=Qq MH;have Z1:=Qq (show ol <+: ol2 by rw [dR];exact Tj _ _);have yQ:k < ol2.length:=Qy hlt2 Z1.out.length_le;have wP:=Qq (show ol2[k]?=some s by
       obtain⟨r,hr⟩:=Z1.out;rw [<-hr,List.getElem?_append_left hlt2];exact HS.out)
      obtain⟨g2,cap2,wF,kW,tC⟩:=wN.out.slice (by omega);subst wF;unfold maxLen at tC;obtain⟨uu,huu,oI,tD⟩:=wN.out.get wP.out;have IT:=Qq oI;obtain⟨Au2,cu2,rfl,_⟩:=Qc oI;obtain⟨⟨q0,q1,q2,q3,q4,q5⟩,_,qb⟩:=Vs eK;clear YW dR iD UP sP dD eK MH oI cY;have nJ:(k:Int) < (ol2.length:Int):=by omega
      by_cases RQ:q < 4
      ·have LU:(q:Int) < 4:=by omega
       have tM:=Iv gn q (by omega);cases uC:gn.testBit q
       case false =>
        rw [uC]at tM;simp only [Bool.not_false]at tM;have HQ:=Qq (Zq5 (c:=s) (q:=q) (by rw [<-HN.out,nB.out,show Vz (gn:Int) q=false from uC,Bool.and_false]));clear uC;go_wp2_with fail;go_roundw
        case rel=>exact⟨q+1,by go_num,by omega,Qq ⟨ol2,by rw [HQ.out];exact WK.out,by rw [HQ.out];exact WN.out,by omega,wN.out,wN.out.ext,fW.out,fI.out⟩⟩
        case measure=>simp [intOf];omega
       case true =>
        rw [uC]at tM;simp only [Bool.not_true]at tM;have HQ:=Qq (Qw0 (c:=s) (q:=q) (by rw [xX.out];rfl) (by rw [<-HN.out,nB.out];exact uC));have I2:=Qq (Qfi xX.out q);clear uC;go_wp2_with fail;refine(Qja (q:Int) ⟨by omega,by omega⟩ _ s _ IT.out qW).mono ?_;rintro e w3 ⟨u3,rfl,jH⟩;rw [I2.out]at jH;have mY:=Qq jH;obtain⟨A3,c3,rfl,_⟩:=Qc jH.fml;clear jH;by_cases hz:(Ul q s).length=0
        ·have sH:(((Ul q s).length:Int)==0)=true:=by rw [hz];rfl
         have HB:=Qq (show Ka (Qr t)=([],8)from Qke (.inl (by
          rw [<-uL.out];refine Qaf (k:=k+1) (u:=Ul q s) ?_ hz;rw [uL.out,bN.out.1];refine List.mem_append_right _ (Qwi (q:=q+1) (by omega) ?_);rw [HQ.out]
          simp)))
         generalize (Ul q s).length=m8 at hz sH;clear hz;go_wp2_with fail;go_ret2;exact⟨.slice none 0 0,by rw [HB.out] <;> rfl,wN.out.ext.trans mY.out.ext,by rw [HB.out];exact(Kq.nil _).before (wN.out.ext.trans mY.out.ext)⟩
        have sH:(((Ul q s).length:Int)==0)=false:=by rw [beq_eq_false_iff_ne];omega
        have HZ:=Qq hz;have PQ:=Qq (show ∀u∈Tm s (q+1),u.length≠0 by
         rw [HQ.out];intro u hu;rcases List.mem_append.1 hu with hu|hu
         ·exact WN.out u hu
         rw [List.mem_singleton.1 hu];exact hz)
        have WJ:=Qq (show Gl ol2 (Ul q s)=(Tm s (q+1)).foldl Gl ol by rw [HQ.out,List.foldl_append,<-WK.out];rfl);clear hz;generalize Ul q s=g8 at mY sH WJ;go_wp2_with fail;refine(Qz7 _ _ ol2 g8 _ (wN.out.fmls.ext mY.out.ext) mY.out.fml).mono ?_;rintro e w4 ⟨rfl,yE⟩;have yN:=Qq (mY.out.ext.trans yE);have OQ:=Qq yE;clear yE;by_cases hp:Yx ol2 g8 < 0
        ·have gD:=Qq (show Gl ol2 g8=ol2++ [g8] by unfold Gl;rw [decide_eq_true hp];rfl);generalize Yx ol2 g8=pz at hp;have xS:ol2.length+1<=maxLen:=by unfold maxLen;omega
         have xR:(ol2.length+1)*24<=140737488355328:=by omega
         go_wp2_with(at_builtin;refine wpList_append_own_at _ rfl _ _ 32 rfl w.heap.size 22 iI (.slice none 0 0) 1 24 Tryz.underlying32 pO vO vN vM rfl (by decide) _ ol2.length us2 rfl (Zk wM.out (yN.out.alloc _)) ⟨_,0,none⟩ 1 1 [.slice A3 g8.length c3] rfl rfl (Zt _ _ _ (by simp)) (fun u hu=>by rw [List.mem_singleton.1 hu];rfl) xS xR (Qx wN.out.ext.size (yN.out.alloc _).size) ?_);intro v7 w7 zW zX _ zH;have RA:=Qq (show w7.heap[w2.heap.size]?=some (.cells #[.int .i64 n.op,.int .i64 n.i,.int .i64 n.e,.int .i64 (gn:Int),.int .i64 n.x,.int .i64 n.y] 71 (0,0))from(zX.block _ (Qy qb (yN.out.alloc _).size) (fun e=>fI.out e.symm)).trans (((yN.out.alloc _).block qb).trans fW.out))
         have GS:=Qq (show v7.ownBlock≠some w2.heap.size from fun e=>by
          rcases zH with e1|e1
          ·exact fI.out (e1▸e)
          rw [e1]at e;injection e with e;have:=(yN.out).size;omega)
         have pV:=Qq (Kq.push (s:=g8) ((wN.out.ext.trans yN.out).alloc _) (Zk wM.out (yN.out.alloc _)) (fun k s hk=>by
          obtain⟨u,a,b,c⟩:=VT.out k s hk;exact⟨u,a,b.ext (yN.out.alloc _),c.ext (yN.out.alloc _)⟩) zW zX (zH.imp id (fun e=>e.trans (by simp))) (mY.out.fml.ext (OQ.out.alloc _)) (Lg (Nat.le_refl _) (Zk mY.out.1 (OQ.out.alloc _)) wM.out wN.out.ext.size))
         obtain⟨A7,c7,rfl⟩:=Qs zW;clear zW zX zH;go_wp2_with fail;go_roundw
         case rel=>exact⟨q+1,by go_num,by omega,Qq ⟨_,by rw [<-WJ.out,gD.out],PQ.out,by rw [List.length_append,List.length_singleton];omega,pV.out,pV.out.ext,RA.out,GS.out⟩⟩
         case measure=>simp [intOf];omega
        have gD:=Qq (show Gl ol2 g8=ol2 by unfold Gl;rw [decide_eq_false hp];rfl);generalize Yx ol2 g8=pz at hp;go_wp2_with fail;go_roundw
        case rel=>exact⟨q+1,by go_num,by omega,Qq ⟨ol2,by rw [<-WJ.out,gD.out],PQ.out,by omega,wN.out.ext_ yN.out,wN.out.ext.trans yN.out,(yN.out.block qb).trans fW.out,fI.out⟩⟩
        case measure=>simp [intOf];omega
      obtain rfl:4=q:=by omega
      go_wp2_with fail;go_roundw
      case rel=>exact⟨k+1,by go_num,by omega,Qq ⟨ol2,by rw [uL.out,bN.out.1,List.foldl_append,<-uL.out,<-qC.out,<-Qjh];exact WK.out,(by
       rw [uL.out,bN.out.1];intro u hu;rcases List.mem_append.1 hu with hu|hu
       ·exact jW.out u (by rw [uL.out];exact hu)
       exact WN.out u (by rw [Qjh];exact hu)),by omega,by omega,wN.out⟩⟩
      case measure=>simp [intOf];omega
    have eN:(n.op !=13)=true:=by simpa using zK
    have Y3:=Qq (show Vo s= [] by unfold Vo;rw [<-HN.out,show(n.op==13)=false by simpa using zK];rfl);obtain⟨⟨q0,q1,q2,q3,q4,q5⟩,_,qb⟩:=Vs XI.out;clear zK;go_loopw [4,65] (fun vo vi wr=>∃q:Nat,vi=.int .i64 (q:Int)/\q<=4/\vo=.slice (some ⟨g0,0,none⟩) ol.length co/\wr=W0) (fun _ v _=>4 - (intOf v).toNat)
    case atStart=>exact⟨0,rfl,Nat.zero_le _,rfl,rfl⟩
    case round =>
     obtain⟨q,rfl,hq,rfl,rfl⟩:=hrel;by_cases RQ:q < 4
     ·have LU:(q:Int) < 4:=by omega
      go_wp2_with fail;go_roundw
      case rel=>exact⟨q+1,by go_num,by omega,by first|rfl|trivial,by first|rfl|trivial⟩
      case measure=>simp [intOf];omega
     obtain rfl:4=q:=by omega
     go_wp2_with fail;go_roundw
     case rel=>exact⟨k+1,by go_num,by omega,Qq ⟨ol,by rw [uL.out,bN.out.1,Y3.out,List.append_nil,<-uL.out];exact qC.out,(by
      rw [uL.out,bN.out.1,Y3.out,List.append_nil,<-uL.out];exact jW.out),by omega,by omega,wY.out.ext_ yZ.out⟩⟩
     case measure=>simp [intOf];omega
   obtain rfl:ol.length=k:=by omega
   have HB:=Qq (show Ka (Qr t)=(ol,0) by
    have hl:l0.length<=ol.length:=by rw [qC.out];exact Qds _ _
    have tQ:=Zzq (l0:=l0) (k:=ol.length) hl;have h1:=qC.out;rw [tQ]at h1;rw [Qn9,<-uL.out,<-h1]
    ·rw [<-uL.out,<-tQ];exact jW.out
    rw [<-uL.out,<-h1];exact hk)
   have OL:(ol.length:Int)<=12:=by omega
   go_wp2_with fail;go_ret2;exact⟨_,by rw [HB.out] <;> rfl,wY.out.ext,by rw [HB.out];exact wY.out⟩
theorem Qi9:(List.range 512).all (fun m=>(bits .andNot .i64 (m:Int) 11 !=0)==((m&&&500) !=0))=true:=by kernel_rfl
theorem Qcx(f:List Nd):(bits .andNot .i64 (Js f:Nat) 11 !=0)=Nr f:=by
 have h:=List.all_eq_true.1 Qi9 (Js f) (List.mem_range.2 (Pk _));exact eq_of_beq h
theorem Qb3(v:Value)(f:List Nd)(w:World)(h:Jo w v f):
 Calls Tryz.prog 18 #[v] w (Qr6 w (Qm f)):=by
 have H:=Qq h;obtain⟨A,c,rfl,_⟩:=Qc h;clear h;by_cases hc:check f≠0
 ·have yV:(check f !=0)=true:=by simpa using hc
  have HB:=Qq (show Qm f=([],check f) by unfold Qm;rw [yV];rfl);clear hc;go_enter Tryz.func18,Tryz.ntmps18;go_wp2_with fail;refine(Vh _ f _ H.out.1).mono ?_;rintro e w1 ⟨rfl,hb⟩;have HX:=Qq hb;clear hb;go_wp2_with fail;go_ret2;exact⟨.slice none 0 0,by rw [HB.out] <;> rfl,HX.out,by rw [HB.out];exact(Kq.nil _).before HX.out⟩
 have hc:check f=0:=Classical.not_not.1 hc;have yV:(check f !=0)=false:=by simpa using hc
 have wU:((check f==0))=true:=by simpa using hc
 have HC:=Qq hc;clear hc;have zI:=Qcx f;cases hl:Nr f
 case true =>
  rw [hl]at zI;have HB:=Qq (show Qm f=([],10) by unfold Qm;rw [yV,hl];rfl);clear hl;go_enter Tryz.func18,Tryz.ntmps18;go_wp2_with fail;refine(Vh _ f _ H.out.1).mono ?_;rintro e w1 ⟨rfl,hb⟩;have HX:=Qq hb;clear hb;go_wp2_with fail;refine(Rh _ f _ (H.out.ext HX.out)).mono ?_;rintro e w2 ⟨rfl,hb⟩;have zS:=Qq (HX.out.trans hb);clear hb;go_wp2_with fail;go_ret2;exact⟨.slice none 0 0,by rw [HB.out] <;> rfl,zS.out,by rw [HB.out];exact(Kq.nil _).before zS.out⟩
 case false =>
  rw [hl]at zI;have HL:=Qq hl;clear hl;by_cases hz:(Ja f).length=0
  ·have HB:=Qq (show Qm f=([],8) by unfold Qm;rw [yV,HL.out,decide_eq_true hz];rfl);have sH:(((Ja f).length:Int)==0)=true:=by rw [hz];rfl
   clear hz;go_enter Tryz.func18,Tryz.ntmps18;go_wp2_with fail;refine(Vh _ f _ H.out.1).mono ?_;rintro e w1 ⟨rfl,hb⟩;have HX:=Qq hb;clear hb;go_wp2_with fail;refine(Rh _ f _ (H.out.ext HX.out)).mono ?_;rintro e w2 ⟨rfl,hb⟩;have zS:=Qq (HX.out.trans hb);clear hb;go_wp2_with fail;refine(Qqq _ f _ (H.out.ext zS.out) HC.out (Ej HC.out HL.out)).mono ?_;rintro e w3 ⟨u,rfl,hf,hb⟩;have HF:=Qq hf;have zD:=Qq (zS.out.trans hb);obtain⟨A3,c3,rfl,_⟩:=Qc hf;clear hb hf;go_wp2_with fail;go_ret2;exact⟨.slice none 0 0,by rw [HB.out] <;> rfl,zD.out,by rw [HB.out];exact(Kq.nil _).before zD.out⟩
  have sH:(((Ja f).length:Int)==0)=false:=by rw [beq_eq_false_iff_ne];omega
  have HB:=Qq (show Qm f=Ka (Ja f) by unfold Qm;rw [yV,HL.out,decide_eq_false hz];rfl);have HT:=Qq (Qy1 HC.out HL.out hz);clear hz;go_enter Tryz.func18,Tryz.ntmps18;go_wp2_with fail;refine(Vh _ f _ H.out.1).mono ?_;rintro e w1 ⟨rfl,hb⟩;have HX:=Qq hb;clear hb;go_wp2_with fail;refine(Rh _ f _ (H.out.ext HX.out)).mono ?_;rintro e w2 ⟨rfl,hb⟩;have zS:=Qq (HX.out.trans hb);clear hb;go_wp2_with fail;refine(Qqq _ f _ (H.out.ext zS.out) HC.out (Ej HC.out HL.out)).mono ?_;rintro e w3 ⟨u,rfl,hf,hb⟩;have HF:=Qq hf;have zD:=Qq (zS.out.trans hb);obtain⟨A3,c3,rfl,_⟩:=Qc hf
  clear hb hf;go_wp2_with fail;refine(Qtt _ _ _ HT.out.1 (by rw [<-HT.out.2];exact HF.out)).mono ?_;rintro e w4 ⟨u4,rfl,yE,vA⟩;have yN:=Qq (zD.out.trans yE);have KQ:=Qq (vA.before zD.out);rw [<-HT.out.2,<-HB.out]at KQ⊢;clear yE vA;go_wp2_with fail;go_ret2;exact⟨_,rfl,yN.out,KQ.out⟩
structure Bk (w:World) (b g:Nat) (lg:Int) (base:List (List Nd)) (root:List Bool) (ks:List Kn) (cs:List Cm) (alive:List Bool):Prop where
 keep:∀w':World,w.heap.size<=w'.heap.size->(∀k,k≠g->k < w.heap.size->w'.heap[k]?=w.heap[k]?)->∃vb vr vk vc,w'.heap[b]?=some (.cells #[.int .i64 lg,vb,vr,vk,vc,.slice (some ⟨g,0,none⟩) alive.length alive.length] 93 (0,0))/\Df w' vb base/\Km w' vr root/\Kns w' vk ks/\Cms w' vc cs
 row:Kf g w g alive
section
variable {w w':World} {b g:Nat} {lg:Int} {base:List (List Nd)} {root:List Bool} {ks:List Kn} {cs:List Cm} {alive:List Bool}
theorem Bk.eng(h:Bk w b g lg base root ks cs alive):Hw w b lg base root ks cs alive:=by
 obtain⟨vb,vr,vk,vc,h0,h1,h2,h3,h4⟩:=h.keep w (Nat.le_refl _) (fun _ _ _=>rfl);exact⟨vb,vr,vk,vc,_,h0,h1,h2,h3,h4,h.row.bools⟩
theorem Bk.ext(h:Bk w b g lg base root ks cs alive)(he:Qg w w'):Bk w' b g lg base root ks cs alive :=
 ⟨fun w2 h1 h2=>h.keep w2 (Qx he.size h1) (fun k hk hl=>(h2 k hk (Qy hl he.size)).trans (he.block hl)),h.row.ext he⟩
theorem Bk.set(h:Bk w b g lg base root ks cs alive)(j:Nat)(x:Bool):Bk (w.setCell ⟨g,j,none⟩ (.bool x)) b g lg base root ks cs (alive.set j x):=by
 refine⟨fun w2 h1 h2=> ?_,(h.row.set j x).1⟩;rw [List.length_set];have e:(w.setCell ⟨g,j,none⟩ (.bool x)).heap.size=w.heap.size:=by simp [World.setCell]
 rw [e]at h1 h2;exact h.keep w2 h1 (fun k hk hl=>(h2 k hk hl).trans (Below.heap_setCell _ _ _ _ hk))
theorem Bk.grown {r:Option Nat}(h:Bk w b g lg base root ks cs alive)(hg:w.grownBy w' r)(hr:∀k,r=some k->w.heap.size<=k):Bk w' b g lg base root ks cs alive :=
 h.ext ((Qg.refl w).grown hg hr)
theorem Bk.cells(h:Bk w b g lg base root ks cs alive):∃Ab cb Ar cr,w.cell? ⟨b,0,none⟩=some (.int .i64 lg)/\w.cell? ⟨b,1,none⟩=some (.slice Ab base.length cb)/\w.cell? ⟨b,2,none⟩=some (.slice Ar root.length cr)/\w.cell? ⟨b,5,none⟩=some (.slice (some ⟨g,0,none⟩) alive.length alive.length)/\b < w.heap.size:=by
 obtain⟨vb,vr,vk,vc,h0,⟨Ab,cb,rfl,_⟩,⟨Ar,cr,rfl,_⟩,_,_⟩:=h.keep w (Nat.le_refl _) (fun _ _ _=>rfl);obtain⟨⟨d0,d1,d2,d3,d4,d5⟩,_,hl⟩:=Vs h0;exact⟨Ab,cb,Ar,cr,d0,d1,d2,d5,hl⟩
end
theorem Zzs {lg:Int} {ks:List Kn} {cs:List Cm} {m:Nat} {al:List Bool} {t:Nat} {i:Int}(h0: -4<=i)(h1:i < m)(h:Vx lg ks cs al t i=true)(hn:∀j:Int,-4<=j->j < i->Vx lg ks cs al t j=false):Tc lg ks cs m al t=some i:=by
 unfold Tc;rw [List.find?_map];have e:(List.range (m+4)).find? ((fun i=>Vx lg ks cs al t i) ∘ fun(j:Nat)=>(j:Int) - 4)=some (i+4).toNat:=by
  rw [List.find?_range_eq_some];refine⟨?_,List.mem_range.2 (by omega),fun j hj=> ?_⟩
  ·show Vx lg ks cs al t (((i+4).toNat:Nat) - 4:Int)=true;rw [show(((i+4).toNat:Nat) - 4:Int)=i by omega];exact h
  show(!Vx lg ks cs al t ((j:Int) - 4))=true;rw [hn _ (by omega) (by omega)];rfl
 rw [e];show some ((((i+4).toNat:Nat):Int) - 4)=some i
 congr 1
 omega
theorem Qw5 {lg:Int} {ks:List Kn} {cs:List Cm} {m:Nat} {al:List Bool} {t:Nat}(hn:∀j:Int,-4<=j->j < m->Vx lg ks cs al t j=false):Tc lg ks cs m al t=none:=by
 unfold Tc;rw [List.find?_eq_none];intro i hi;obtain⟨j,hj,rfl⟩:=List.mem_map.1 hi;have:=List.mem_range.1 hj;rw [hn _ (by omega) (by omega)];simp
theorem Qhv {why:List Bool->Nat->Option Int}(k:Nat)(s:List Bool×List (Nat×Int)):Xq why (List.range (k+1)) s=Uz why (Xq why (List.range k) s) k:=by
 rw [List.range_succ,Qy7];rfl
def Qkb(l:List Nat):List Value:=l.map fun(u:Nat)=>Value.int .u64 (u:Int)
def Qv1(l:List Int):List Value:=l.map fun(u:Int)=>Value.int .i64 u
def Yk(X:Nat->Prop)(w w':World):Prop:=w.heap.size<=w'.heap.size/\∀k,¬X k->k < w.heap.size->w'.heap[k]?=w.heap[k]?
def Kr(X:Nat->Prop)(w:World)(P:World->Prop):Prop:=∀w',Yk X w w'->P w'
section
variable {X X':Nat->Prop} {w w':World} {P:World->Prop}
theorem Yk.of_ext(h:Qg w w'):Yk X w w':=⟨h.size,fun _ _ hk=>h.block hk⟩
theorem Yk.trans {w2:World}(h:Yk X w w')(h2:Yk X' w' w2)(hx:∀k,k < w.heap.size->X' k->X k):Yk X w w2 :=
 ⟨Qx h.1 h2.1,fun k hk hl=>(h2.2 k (fun e=>hk (hx k hl e)) (Qy hl h.1)).trans (h.2 k hk hl)⟩
theorem Kr.next(h:Kr X w P)(hs:Yk X w w')(hx:∀k,k < w.heap.size->X' k->X k):Kr X' w' P:=fun w2 h2=>h w2 (hs.trans h2 hx)
theorem Kr.here(h:Kr X w P):P w:=h w ⟨Nat.le_refl _,fun _ _ _=>rfl⟩
theorem Kr.of_row {base g:Nat} {l:List Bool}(h:Kf base w g l)(hg:¬X g):Kr X w fun w'=>Km w' (.slice (some ⟨g,0,none⟩) l.length l.length) l:=fun w2 h2=>by
 have:Kf base w2 g l:=Zm h fun k hk=>by
  have e:k=g:=by injection hk with hk;exact hk.symm
  subst e;exact h2.2 k hg h.lt.2
 exact this.bools
theorem Qm6(w:World):Km w (.slice none 0 0) []:=⟨none,0,rfl,Nat.le_refl _,by unfold maxLen;omega,fun h=>absurd rfl h⟩
theorem Qg1 {α:Type} {f:α->List Value} {c:Nat}(hf:∀a,(f a).length=c):∀(l:List α) (k:Nat) (n:α) (j:Nat),l[k]?=some n->j < c->(l.flatMap f)[k*c+j]?=(f n)[j]?
 |[],k,n,j,h,_=>by simp at h
 |m :: r,0,n,j,h,hj=>by
  simp only [List.getElem?_cons_zero,Option.some.injEq]at h;subst h;rw [List.flatMap_cons,List.getElem?_append_left (by rw [hf];omega)];simp
 |m :: r,k+1,n,j,h,hj=>by
  rw [List.flatMap_cons,List.getElem?_append_right (by rw [hf,Nat.add_mul];omega)];have e:(k+1)*c+j - (f m).length=k*c+j:=by rw [hf,Nat.add_mul];omega
  rw [e];exact Qg1 hf r k n j (by simpa using h) hj
theorem Qfs {α:Type} {f:α->List Value} {c base:Nat} {e:TypeId} {v:Value} {l:List α}(hf:∀a,(f a).length=c)(h:w.ownsRow base e c v l.length (l.flatMap f)):
 ∃A cap,v=.slice A l.length cap/\l.length<=cap/\cap<=maxLen/\(l≠ []->∃g,A=some ⟨g,0,none⟩/\g < w.heap.size/\∀k n,l[k]?=some n->∀j,j < c->∀u,(f n)[j]?=some u->w.cell? ⟨g,k*c+j,none⟩=some u):=by
 obtain⟨_,h2⟩:=h;rcases h2 with⟨rfl,h0⟩|⟨g,cap,cur,rfl,hb,hg,hn,xU,lX,lW⟩
 ·have:l= []:=List.length_eq_zero_iff.1 h0;subst this;exact⟨none,0,rfl,Nat.le_refl _,by unfold maxLen;omega,fun h=>absurd rfl h⟩
 refine⟨some ⟨g,0,none⟩,cap,rfl,hn,xU,fun zQ=>⟨g,rfl,Qn hg,fun k n hk j hj u hu=> ?_⟩⟩;have h1:=Qg1 hf l k n j hk hj;rw [<-lW,hu]at h1;have h2:cur[k*c+j]?=some u:=by
  rw [List.getElem?_take]at h1
  split at h1
  ·simpa using h1
  cases h1
 simp [World.cell?,hg,h2]
end
def knV(r:Kn×Value):List Value:= [.int .i64 r.1.agent,.int .i64 (r.1.place:Int),r.2]
def cmV(r:Cm×Value×Value):List Value:= [.int .i64 (r.1.place:Int),.int .i64 r.1.group,r.2.1,r.2.2,.int .u64 (r.1.parts:Int)]
section
variable {w w':World} {base:Nat} {v:Value}
theorem Qlc {rs:List (Kn×Value)}(h:w.ownsRow base 136 3 v rs.length (rs.flatMap knV))(hb:∀r∈rs,Km w r.2 r.1.holds):Kns w v (rs.map Prod.fst):=by
 obtain⟨A,cap,rfl,h1,h2,h3⟩:=Qfs (f:=knV) (c:=3) (fun _=>rfl) h;refine⟨A,cap,by rw [List.length_map],by rw [List.length_map];exact h1,h2,fun hn=> ?_⟩;obtain⟨g,rfl,hg,hc⟩:=h3 (fun e=>hn (by rw [e];rfl));refine⟨_,rfl,hg,fun k n hk=> ?_⟩;rw [List.getElem?_map]at hk;cases hr:rs[k]? with
 |none=>rw [hr]at hk;cases hk
 |some r =>
  rw [hr]at hk;obtain rfl:r.1=n:=by simpa using hk
  have e0:((⟨g,0,none⟩:Addr).add (k*3))=⟨g,k*3,none⟩:=by
   unfold Addr.add
   split
   ·rename_i h;rw [h]
   simp
  rw [e0];exact⟨r.2,hc k r hr 0 (by omega) _ rfl,hc k r hr 1 (by omega) _ rfl,hc k r hr 2 (by omega) _ rfl,hb r (List.mem_of_getElem? hr)⟩
theorem Qto {rs:List (Cm×Value×Value)}(h:w.ownsRow base 138 5 v rs.length (rs.flatMap cmV))(hb:∀r∈rs,Km w r.2.1 r.1.x/\Km w r.2.2 r.1.y):Cms w v (rs.map Prod.fst):=by
 obtain⟨A,cap,rfl,h1,h2,h3⟩:=Qfs (f:=cmV) (c:=5) (fun _=>rfl) h;refine⟨A,cap,by rw [List.length_map],by rw [List.length_map];exact h1,h2,fun hn=> ?_⟩;obtain⟨g,rfl,hg,hc⟩:=h3 (fun e=>hn (by rw [e];rfl));refine⟨_,rfl,hg,fun k n hk=> ?_⟩;rw [List.getElem?_map]at hk;cases hr:rs[k]? with
 |none=>rw [hr]at hk;cases hk
 |some r =>
  rw [hr]at hk;obtain rfl:r.1=n:=by simpa using hk
  have e0:((⟨g,0,none⟩:Addr).add (k*5))=⟨g,k*5,none⟩:=by
   unfold Addr.add
   split
   ·rename_i h;rw [h]
   simp
  rw [e0];have hm:=hb r (List.mem_of_getElem? hr);exact⟨r.2.1,r.2.2,hc k r hr 0 (by omega) _ rfl,hc k r hr 1 (by omega) _ rfl,hc k r hr 2 (by omega) _ rfl,hc k r hr 3 (by omega) _ rfl,hc k r hr 4 (by omega) _ rfl,hm.1,hm.2⟩
end
def Si(b g:Nat)(vk vc:Value)(k:Nat):Prop:=k=b\/k=g\/vk.ownBlock=some k\/vc.ownBlock=some k
structure Xs (w1 w:World) (b g:Nat) (lg:Int) (base:List (List Nd)) (root:List Bool) (ks:List Kn) (cs:List Cm) (alive:List Bool) (vk vc:Value):Prop where
 ext:Qg w1 w
 lo:w1.heap.size<=b/\b≠g
 cells:∃vb vr,w.heap[b]?=some (.cells #[.int .i64 lg,vb,vr,vk,vc,.slice (some ⟨g,0,none⟩) alive.length alive.length] 93 (0,0))/\Df w1 vb base/\Kr (Si b g vk vc) w (fun w'=>Km w' vr root)
 al:Kf w1.heap.size w g alive
 kn:∃rs:List (Kn×Value),rs.map Prod.fst=ks/\w.ownsRow w1.heap.size 136 3 vk rs.length (rs.flatMap knV)/\∀r∈rs,Kr (Si b g vk vc) w (fun w'=>Km w' r.2 r.1.holds)
 cm:∃rs:List (Cm×Value×Value),rs.map Prod.fst=cs/\w.ownsRow w1.heap.size 138 5 vc rs.length (rs.flatMap cmV)/\∀r∈rs,Kr (Si b g vk vc) w (fun w'=>Km w' r.2.1 r.1.x)/\Kr (Si b g vk vc) w (fun w'=>Km w' r.2.2 r.1.y)
 dk:vk.ownBlock≠some b/\vk.ownBlock≠some g
 dc:vc.ownBlock≠some b/\vc.ownBlock≠some g
 dd:∀k,vk.ownBlock=some k->vc.ownBlock≠some k
section
variable {w1 w w':World} {b g:Nat} {lg:Int} {base:List (List Nd)} {root:List Bool} {ks:List Kn} {cs:List Cm} {alive:List Bool} {vk vc:Value}
theorem Xs.blt(h:Xs w1 w b g lg base root ks cs alive vk vc):b < w.heap.size:=by
 obtain⟨_,_,hb,_⟩:=h.cells;exact Qn hb
theorem Xs.next(h:Xs w1 w b g lg base root ks cs alive vk vc)(he:Qg w w'):Xs w1 w' b g lg base root ks cs alive vk vc:=by
 refine⟨h.ext.trans he,h.lo,?_,h.al.ext he,?_,?_,h.dk,h.dc,h.dd⟩
 ·obtain⟨vb,vr,hb,h1,h2⟩:=h.cells;exact⟨vb,vr,(he.block (Qn hb)).trans hb,h1,h2.next (Yk.of_ext he) fun _ _ h=>h⟩
 ·obtain⟨rs,e,h1,h2⟩:=h.kn;exact⟨rs,e,Zk h1 he,fun r hr=>(h2 r hr).next (Yk.of_ext he) fun _ _ h=>h⟩
 obtain⟨rs,e,h1,h2⟩:=h.cm;exact⟨rs,e,Zk h1 he,fun r hr=>⟨(h2 r hr).1.next (Yk.of_ext he) fun _ _ h=>h,(h2 r hr).2.next (Yk.of_ext he) fun _ _ h=>h⟩⟩
theorem Qwb {e:TypeId} {size n c m:Nat} {bs:Nat} {xs:List Value}(h:w.ownsRow bs e size (.slice (some ⟨g,0,none⟩) n c) m xs):w.ownsRow g e size (.slice (some ⟨g,0,none⟩) n c) m xs:=by
 obtain⟨h1,h2⟩:=h;refine⟨h1,?_⟩;rcases h2 with h2|⟨g',cap,cur,e,h3,h4⟩
 ·exact .inl h2
 have hg:g'=g:=by
  injection e with e;injection e with e;injection e with e;exact e.symm
 exact .inr ⟨g',cap,cur,e,by omega,h4⟩
theorem Xs.engX(h:Xs w1 w b g lg base root ks cs alive vk vc):Bk w b g lg base root ks cs alive:=by
 refine⟨fun w2 h1 h2=> ?_,Qwb h.al⟩;have hs:Yk (Si b g vk vc) w w2:=⟨h1,fun k hk hl=>h2 k (fun e=>hk (.inr (.inl e))) hl⟩;obtain⟨vb,vr,hb,hf,hr⟩:=h.cells;obtain⟨rs,rfl,k1,k2⟩:=h.kn;obtain⟨ss,rfl,c1,c2⟩:=h.cm;have he:Qg w1 { w2 with os:=w1.os,tape:=w1.tape,output:=w1.output } :=⟨rfl,rfl,rfl,Qx h.ext.size h1,fun k hk=>(h2 k (fun e=>by have:=h.al.lt.1;omega) (Qy hk h.ext.size)).trans (h.ext.block hk)⟩;have RZ:=hf.ext he;have rI:Df w2 vb base:=RZ;refine⟨vb,vr,vk,vc,(h2 b h.lo.2 (Qn hb)).trans hb,rI,hr w2 hs,Qlc (Zm k1 fun k hk=>h2 k (fun e=>h.dk.2 (e▸hk)) (k1.lt k hk).2) fun r hr=>k2 r hr w2 hs,Qto (Zm c1 fun k hk=>h2 k (fun e=>h.dc.2 (e▸hk)) (c1.lt k hk).2) fun r hr=>⟨(c2 r hr).1 w2 hs,(c2 r hr).2 w2 hs⟩⟩
theorem Qq3 {a0 a1 a2 a3 a4 a5 u:Value} {t:TypeId}(h:w.heap[b]?=some (.cells #[a0,a1,a2,a3,a4,a5] t (0,0))):
 (w.setCell ⟨b,2,none⟩ u).heap[b]?=some (.cells #[a0,a1,u,a3,a4,a5] t (0,0))/\(w.setCell ⟨b,3,none⟩ u).heap[b]?=some (.cells #[a0,a1,a2,u,a4,a5] t (0,0))/\(w.setCell ⟨b,4,none⟩ u).heap[b]?=some (.cells #[a0,a1,a2,a3,u,a5] t (0,0)):=by
 refine⟨?_,?_,?_⟩ <;>(simp only [World.setCell,Array.getElem?_modify,h,if_true,Option.map_some];simp)
theorem Eb(k:Nat)(u:Value):Yk (fun x=>x=b) w (w.setCell ⟨b,k,none⟩ u):=
 ⟨by simp [World.setCell],fun x hx _=>Below.heap_setCell _ _ _ _ hx⟩
theorem Qxq {r:Option Nat}(h:w.grownBy w' r):Yk (fun x=>r=some x) w w':=⟨h.size,fun k hk hl=>h.block k hl (fun e=>hk e.symm)⟩
theorem Qx8 {a:World}(h:Qg a w)(hb:a.heap.size<=b)(k:Nat)(u:Value):Qg a (w.setCell ⟨b,k,none⟩ u):=h.setCell (p:=⟨b,k,none⟩) hb u
theorem Xs.root_ {vr:Value} {root':List Bool}(h:Xs w1 w b g lg base root ks cs alive vk vc)(hr:Kr (Si b g vk vc) w (fun w'=>Km w' vr root')):Xs w1 (w.setCell ⟨b,2,none⟩ vr) b g lg base root' ks cs alive vk vc:=by
 have hs:=Eb (w:=w) (b:=b) 2 vr;have hx:∀k,k < w.heap.size->Si b g vk vc k->Si b g vk vc k:=fun _ _ h=>h
 have XW:Yk (Si b g vk vc) w (w.setCell ⟨b,2,none⟩ vr):=⟨hs.1,fun k hk hl=>hs.2 k (fun e=>hk (.inl e)) hl⟩;refine⟨Qx8 h.ext h.lo.1 2 vr,h.lo,?_,Zm h.al fun k hk=>hs.2 k (fun e=> ?_) ?_,?_,?_,h.dk,h.dc,h.dd⟩
 ·obtain⟨vb,_,hb,h1,_⟩:=h.cells;exact⟨vb,vr,(Qq3 hb).1,h1,hr.next XW hx⟩
 ·have:k=g:=by injection hk with hk;exact hk.symm
  exact h.lo.2 (by omega)
 ·exact by have e:k=g:=by injection hk with hk;exact hk.symm
           rw [e];exact h.al.lt.2
 ·obtain⟨rs,e,h1,h2⟩:=h.kn;exact⟨rs,e,Zm h1 fun k hk=>hs.2 k (fun e=>h.dk.1 (e▸hk)) (h1.lt k hk).2,fun r hr=>(h2 r hr).next XW hx⟩
 obtain⟨rs,e,h1,h2⟩:=h.cm;exact⟨rs,e,Zm h1 fun k hk=>hs.2 k (fun e=>h.dc.1 (e▸hk)) (h1.lt k hk).2,fun r hr=>⟨(h2 r hr).1.next XW hx,(h2 r hr).2.next XW hx⟩⟩
theorem Xs.know {w4:World} {c:Obj} {vk' vh:Value} {n:Kn} {rs:List (Kn×Value)}(h:Xs w1 w b g lg base root ks cs alive vk vc)(jD:rs.map Prod.fst=ks)(uS:∀r∈rs,Kr (Si b g vk vc) w (fun w'=>Km w' r.2 r.1.holds))
 (hh:Kr (fun k=>Si b g vk vc k) w (fun w'=>Km w' vh n.holds))(zR:w4.ownsRow w1.heap.size 136 3 vk' (rs.length+1) (rs.flatMap knV++knV (n,vh)))(hg:(w.alloc c).grownBy w4 vk.ownBlock)(ho:vk'.ownBlock=vk.ownBlock\/vk'.ownBlock=some (w.alloc c).heap.size):
 Xs w1 (w4.setCell ⟨b,3,none⟩ vk') b g lg base root (ks++ [n]) cs alive vk' vc:=by
 have wQ:Yk (fun x=>vk.ownBlock=some x) w w4:=(Yk.of_ext ((Qg.refl w).alloc c)).trans (Qxq hg) (fun _ _ h=>h);have lX:w.heap.size < (w.alloc c).heap.size:=by simp
 have yD:Yk (fun x=>x=b\/vk.ownBlock=some x) w (w4.setCell ⟨b,3,none⟩ vk'):=by
  refine⟨by rw [show(w4.setCell ⟨b,3,none⟩ vk').heap.size=w4.heap.size by simp [World.setCell]];exact wQ.1,fun k hk hl=> ?_⟩;rw [(Eb (w:=w4) (b:=b) 3 vk').2 k (fun e=>hk (.inl e)) (Qy hl wQ.1)];exact wQ.2 k (fun e=>hk (.inr e)) hl
 have rO:Yk (Si b g vk vc) w (w4.setCell ⟨b,3,none⟩ vk'):=⟨yD.1,fun k hk hl=>yD.2 k (fun e=>hk (e.elim .inl fun e=> .inr (.inr (.inl e)))) hl⟩;have hx:∀k,k < w.heap.size->Si b g vk' vc k->Si b g vk vc k:=fun k hl e=>by
  rcases e with e|e|e|e
  ·exact .inl e
  ·exact .inr (.inl e)
  ·rcases ho with ho|ho
   ·exact .inr (.inr (.inl (ho▸e)))
   rw [ho]at e;injection e with e;omega
  exact .inr (.inr (.inr e))
 have xQ:=h.blt;have xD:∀k,vk.ownBlock=some k->w1.heap.size<=k:=fun k hk=>by
  obtain⟨_,_,h1,_⟩:=h.kn;exact(h1.lt k hk).1
 have xP:=h.al.lt;refine⟨?_,h.lo,?_,Zm h.al fun k hk=> ?_,?_,?_,?_,h.dc,fun k hk wW=> ?_⟩
 ·exact Qx8 ((h.ext.alloc c).grown hg xD) h.lo.1 3 vk'
 ·obtain⟨vb,vr,hb,h1,h2⟩:=h.cells;have VD:w4.heap[b]?=_:=(wQ.2 b (fun e=>h.dk.1 e) xQ).trans hb;exact⟨vb,vr,(Qq3 VD).2.1,h1,h2.next rO hx⟩
 ·have e:k=g:=by injection hk with hk;exact hk.symm
  subst e;exact yD.2 k (fun e=>e.elim (fun e=>h.lo.2 e.symm) (fun e=>h.dk.2 e)) xP.2
 ·refine⟨rs++ [(n,vh)],by rw [List.map_append,jD];rfl,?_,fun r hr=> ?_⟩
  ·rw [List.length_append,List.length_singleton,List.flatMap_append,List.flatMap_singleton];refine Zm zR fun k hk=>(Eb (w:=w4) (b:=b) 3 vk').2 k (fun e=> ?_) (zR.lt k hk).2
   subst e;rcases ho with ho|ho
   ·exact h.dk.1 (ho▸hk)
   rw [ho]at hk;injection hk with hk;omega
  rcases List.mem_append.1 hr with hr|hr
  ·exact(uS r hr).next rO hx
  rw [List.mem_singleton.1 hr];exact hh.next rO hx
 ·obtain⟨ss,e,h1,h2⟩:=h.cm;exact⟨ss,e,Zm h1 fun k hk=>yD.2 k (fun e=>e.elim (fun e=>h.dc.1 (e▸hk)) (fun e=>h.dd k e hk)) (h1.lt k hk).2,fun r hr=>⟨(h2 r hr).1.next rO hx,(h2 r hr).2.next rO hx⟩⟩
 ·rcases ho with ho|ho
  ·rw [ho];exact h.dk
  rw [ho];exact⟨fun e=>by injection e with e;omega,fun e=>by injection e with e;omega⟩
 rcases ho with ho|ho
 ·exact h.dd k (ho▸hk) wW
 rw [ho]at hk;injection hk with hk;obtain⟨_,_,h1,_⟩:=h.cm;have:=(h1.lt k wW).2;omega
theorem Xs.comm {w4:World} {c:Obj} {vc' vx vy:Value} {n:Cm} {rs:List (Cm×Value×Value)}(h:Xs w1 w b g lg base root ks cs alive vk vc)(jD:rs.map Prod.fst=cs)(xK:∀r∈rs,Kr (Si b g vk vc) w (fun w'=>Km w' r.2.1 r.1.x)/\Kr (Si b g vk vc) w (fun w'=>Km w' r.2.2 r.1.y))
 (hhx:Kr (Si b g vk vc) w (fun w'=>Km w' vx n.x))(hhy:Kr (Si b g vk vc) w (fun w'=>Km w' vy n.y))(zR:w4.ownsRow w1.heap.size 138 5 vc' (rs.length+1) (rs.flatMap cmV++cmV (n,vx,vy)))(hg:(w.alloc c).grownBy w4 vc.ownBlock)(ho:vc'.ownBlock=vc.ownBlock\/vc'.ownBlock=some (w.alloc c).heap.size):
 Xs w1 (w4.setCell ⟨b,4,none⟩ vc') b g lg base root ks (cs++ [n]) alive vk vc':=by
 have wQ:Yk (fun x=>vc.ownBlock=some x) w w4:=(Yk.of_ext ((Qg.refl w).alloc c)).trans (Qxq hg) (fun _ _ h=>h);have lX:w.heap.size < (w.alloc c).heap.size:=by simp
 have yD:Yk (fun x=>x=b\/vc.ownBlock=some x) w (w4.setCell ⟨b,4,none⟩ vc'):=by
  refine⟨by rw [show(w4.setCell ⟨b,4,none⟩ vc').heap.size=w4.heap.size by simp [World.setCell]];exact wQ.1,fun k hk hl=> ?_⟩;rw [(Eb (w:=w4) (b:=b) 4 vc').2 k (fun e=>hk (.inl e)) (Qy hl wQ.1)];exact wQ.2 k (fun e=>hk (.inr e)) hl
 have rO:Yk (Si b g vk vc) w (w4.setCell ⟨b,4,none⟩ vc'):=⟨yD.1,fun k hk hl=>yD.2 k (fun e=>hk (e.elim .inl fun e=> .inr (.inr (.inr e)))) hl⟩;have hx:∀k,k < w.heap.size->Si b g vk vc' k->Si b g vk vc k:=fun k hl e=>by
  rcases e with e|e|e|e
  ·exact .inl e
  ·exact .inr (.inl e)
  ·exact .inr (.inr (.inl e))
  rcases ho with ho|ho
  ·exact .inr (.inr (.inr (ho▸e)))
  rw [ho]at e;injection e with e;omega
 have xQ:=h.blt;have yR:∀k,vc.ownBlock=some k->w1.heap.size<=k:=fun k hk=>by
  obtain⟨_,_,h1,_⟩:=h.cm;exact(h1.lt k hk).1
 have xP:=h.al.lt;refine⟨?_,h.lo,?_,Zm h.al fun k hk=> ?_,?_,?_,h.dk,?_,fun k hk wW=> ?_⟩
 ·exact Qx8 ((h.ext.alloc c).grown hg yR) h.lo.1 4 vc'
 ·obtain⟨vb,vr,hb,h1,h2⟩:=h.cells;have VD:w4.heap[b]?=_:=(wQ.2 b (fun e=>h.dc.1 e) xQ).trans hb;exact⟨vb,vr,(Qq3 VD).2.2,h1,h2.next rO hx⟩
 ·have e:k=g:=by injection hk with hk;exact hk.symm
  subst e;exact yD.2 k (fun e=>e.elim (fun e=>h.lo.2 e.symm) (fun e=>h.dc.2 e)) xP.2
 ·obtain⟨ss,e,h1,h2⟩:=h.kn;exact⟨ss,e,Zm h1 fun k hk=>yD.2 k (fun e=>e.elim (fun e=>h.dk.1 (e▸hk)) (fun e=>h.dd k hk e)) (h1.lt k hk).2,fun r hr=>(h2 r hr).next rO hx⟩
 ·refine⟨rs++ [(n,vx,vy)],by rw [List.map_append,jD];rfl,?_,fun r hr=> ?_⟩
  ·rw [List.length_append,List.length_singleton,List.flatMap_append,List.flatMap_singleton];refine Zm zR fun k hk=>(Eb (w:=w4) (b:=b) 4 vc').2 k (fun e=> ?_) (zR.lt k hk).2
   subst e;rcases ho with ho|ho
   ·exact h.dc.1 (ho▸hk)
   rw [ho]at hk;injection hk with hk;omega
  rcases List.mem_append.1 hr with hr|hr
  ·exact⟨(xK r hr).1.next rO hx,(xK r hr).2.next rO hx⟩
  rw [List.mem_singleton.1 hr];exact⟨hhx.next rO hx,hhy.next rO hx⟩
 ·rcases ho with ho|ho
  ·rw [ho];exact h.dc
  rw [ho];exact⟨fun e=>by injection e with e;omega,fun e=>by injection e with e;omega⟩
 rcases ho with ho|ho
 ·exact h.dd k hk (ho▸wW)
 rw [ho]at wW;injection wW with wW;obtain⟨_,_,h1,_⟩:=h.kn;have:=(h1.lt k hk).2;omega
theorem Xs.start(he:Qg w1 w)(wB:w1.heap.size<=b/\b≠g)(hb:w.heap[b]?=some (.cells #[.int .i64 lg,vk,.slice none 0 0,.slice none 0 0,.slice none 0 0,.slice (some ⟨g,0,none⟩) alive.length alive.length] 93 (0,0)))(hf:Df w1 vk base)(vS:Kf w1.heap.size w g alive):
 Xs w1 w b g lg base [] [] [] alive (.slice none 0 0) (.slice none 0 0):=
 ⟨he,wB,⟨_,_,hb,hf,fun _ _=>Qm6 _⟩,vS,⟨[],rfl,World.ownsRow_nil _ _ _ _,by simp⟩,⟨[],rfl,World.ownsRow_nil _ _ _ _,by simp⟩,⟨by simp [Value.ownBlock],by simp [Value.ownBlock]⟩,⟨by simp [Value.ownBlock],by simp [Value.ownBlock]⟩,fun k hk=>by simp [Value.ownBlock]at hk⟩
theorem Xs.fresh {w0:World} {gh:Nat} {l:List Bool}(h:Xs w1 w0 b g lg base root ks cs alive vk vc)(hr:Kf w0.heap.size w gh l):Kr (Si b g vk vc) w (fun w'=>Km w' (.slice (some ⟨gh,0,none⟩) l.length l.length) l):=
 Kr.of_row hr fun e=>by
  have h1:=hr.lt.1;rcases e with e|e|e|e
  ·have:=h.blt;omega
  ·have:=h.al.lt.2;omega
  ·obtain⟨_,_,h2,_⟩:=h.kn;have:=(h2.lt gh e).2;omega
  obtain⟨_,_,h2,_⟩:=h.cm;have:=(h2.lt gh e).2;omega
theorem Xs.reads(h:Xs w1 w b g lg base root ks cs alive vk vc):w.cell? ⟨b,3,none⟩=some vk/\w.cell? ⟨b,4,none⟩=some vc/\w.cell? ⟨b,5,none⟩=some (.slice (some ⟨g,0,none⟩) alive.length alive.length)/\(∀j,w.frozen? ⟨b,j,none⟩=false)/\b < w.heap.size:=by
 obtain⟨_,_,hb,_⟩:=h.cells;obtain⟨⟨_,_,_,d3,d4,d5⟩,hf,hl⟩:=Vs hb;exact⟨d3,d4,d5,hf,hl⟩
theorem Xs.eng(h:Xs w1 w b g lg base root ks cs alive vk vc):Hw w b lg base root ks cs alive:=h.engX.eng
end
end Go.Proofs.YtkmclcmnoicagaaGreatDoor
