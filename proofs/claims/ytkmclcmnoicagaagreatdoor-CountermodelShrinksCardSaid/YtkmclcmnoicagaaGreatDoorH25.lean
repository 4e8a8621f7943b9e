/- types' baseOf: the walk. -/
import Derived.Test.YtkmclcmnoicagaaGreatDoorH24
namespace Go.Proofs.YtkmclcmnoicagaaGreatDoor
set_option maxRecDepth 100000
set_option maxHeartbeats 128000000
open Go.RowKit
def Qb9(m:Nat)(v:Value):Prop:=∀g,v.ownBlock=some g->m<=g
theorem Qb9.next {m N:Nat} {v v':Value}(h:Qb9 m v)(hm:m<=N)(yM:v'.ownBlock=v.ownBlock\/v'.ownBlock=some N):Qb9 m v':=fun g hg=>by
 rcases yM with e|e
 ·exact h g (e▸hg)
 rw [e]at hg;injection hg with hg;omega
theorem Qic {m B:Nat} {w W:World} {vo x:Value}(hx:∀g,x.ownBlock=some g->g < w.heap.size/\m<=g)(hB:w.heap.size<=B)(hv:Qb9 B vo)(he:w.heap.size<=W.heap.size):Ek m W vo x:=fun g hg=>by
 obtain⟨h1,h2⟩:=hx g hg;exact⟨by omega,fun e=>by have:=hv g e;omega,h2⟩
theorem Qbk {c:List Nd}(h:(Qi c).op=13)(q:Nat):Qm5 (q:Int) c=Ua q c:=by
 unfold Qm5 Ua Un Dw;rw [h];rfl
theorem Qp9 {l:List (List Nd)} {k:Nat} {s:List Nd}(h:l[k]?=some s):(l.take (k+1)).filter (fun s=>Jh (Qi s))=(l.take k).filter (fun s=>Jh (Qi s))++(bif Jh (Qi s)then [s]else []):=by
 rw [Kd h,List.filter_append,List.filter_cons];cases Jh (Qi s) <;> rfl
def Qsr(wi:World)(r:List (List Nd)×Int)(e:Ending)(w':World):Prop:=∃u,e=.returned (.tuple #[u,.int .i64 r.2])/\Qg wi w'/\Ky wi w' u r.1
theorem Qt4(v:Value)(t:Tr)(w:World)(ht:Xf t)(h:Yq w v (Qs t)):
 Calls Tryz.prog 57 #[v] w (Qsr w (Kw (Qs t))):=by
 have H:=Qq h;have HT:=Qq ht;obtain⟨iI,pU,vQ,vP,vO⟩:=info_parts Qg3;obtain⟨A,c,rfl,_⟩:=Qc h;obtain⟨sl,nH⟩:∃b,b=Qy4 (Qs t):=⟨_,rfl⟩;have AM:sl.length<=200:=by rw [nH,ht.subs];simpa using ht.len
 have JC:=Qq nH;have oQ:=Qq (show ∀s∈sl,∃u,Xf u/\s=Qs u by
  rw [nH,ht.subs];intro s hs;obtain⟨i,hi,rfl⟩:=List.mem_map.1 hs;exact⟨_,ht.at (List.mem_range.1 hi),rfl⟩)
 clear h ht nH;go_enter Tryz.func57,Tryz.ntmps57;go_wp2_with fail;refine(Qon _ (Qs t) _ H.out HT.out.check).mono ?_;rintro e w1 ⟨uc,rfl,oX⟩;rw [<-JC.out]at oX;have jC:=Qq oX;obtain⟨As,cs,rfl,xR,yN,zM⟩:=oX.fmls;have uA:=Qq zM;unfold maxLen at yN;have EI:=Qq oX.row;clear oX zM;go_wp2_with fail;go_loopw [4,19] (fun vo vi wr=>∃k:Nat,vi=.int .i64 (k:Int)/\k<=sl.length/\Hid (∃ol,ol=(sl.take k).filter (fun s=>Jh (Qi s))/\Ky w wr vo ol/\Qg w1 wr/\Qb9 w1.heap.size vo)) (fun _ v _=>sl.length - (intOf v).toNat)
 case atStart=>exact⟨0,rfl,Nat.zero_le _,Qq ⟨[],rfl,(Ky.nil _).before jC.out.ext,Qz,fun g hg=>by cases hg⟩⟩
 case round =>
  obtain⟨k,rfl,hk,zY⟩:=hrel;obtain⟨ol,sZ,xM,hx,nN⟩:=zY.out;obtain⟨us,zR,tJ⟩:=xM.row;obtain⟨Ao,co,rfl⟩:=Qt zR;have pK:=Qq sZ;have wW:=Qq xM;have yO:=Qq zR;have lG:=Qq tJ;have HX:=Qq hx;have gD:=Qq nN;have SE:ol.length<=200:=by
   rw [sZ];refine Qx (List.length_filter_le _ _) ?_;rw [List.length_take];omega
  clear zY sZ xM zR tJ hx nN;by_cases hlt2:k < sl.length
  ·have yV:(k:Int) < (sl.length:Int):=by omega
   obtain⟨s,hs⟩:∃s,sl[k]?=some s:=⟨_,Qv hlt2⟩;obtain⟨ad,rfl,yX,zH⟩:=uA.out (by intro e;rw [e]at hlt2;simp at hlt2);obtain⟨u,hu,hf⟩:=zH k s hs;have a0:=(HX.out.cell (p:=ad.add k) (Qj yX)).trans hu;have tD:(ad.add k).block < wr.heap.size:=by rw [Qr];exact Qy yX HX.out.size
   have HF:=Qq (hf.ext HX.out);have HS:=Qq hs;obtain⟨su,WH,YN⟩:=oQ.out s (List.mem_of_getElem? hs);have sI:0 < s.length:=by rw [YN];exact Ud WH.xp.1.1
   obtain⟨Au,cu,rfl,_⟩:=Qc hf;have aS:=Qq (show ∀g,(Value.slice Au s.length cu).ownBlock=some g->g < w1.heap.size/\w.heap.size<=g by
    obtain⟨us0,cI,IC⟩:=EI.out;obtain⟨u',hu',_,XE⟩:=IC k s hs;have h0:0 < sl.length:=by omega
    obtain⟨g',cap',e',_,_,_,iR⟩:=Ps cI h0;injection e' with e1 _ _;injection e1 with e1;subst e1;have yR:=iR k u' hu';rw [show((⟨g',0,none⟩:Addr).add k)=⟨g',k,none⟩from Fo g' k]at hu;rw [yR]at hu;injection hu with hu;subst hu;exact fun g hg=>⟨(XE g hg).1,(XE g hg).2.2⟩)
   clear hs zH hf hu WH YN;obtain⟨wq,vC⟩:∃v,v=wr:=⟨_,rfl⟩;subst vC;go_wp2_with fail;refine(Ia _ s _ HF.out sI).mono ?_;rintro e w2 ⟨u1,u2,rfl,zS,mW,qW⟩;have zT:=Qq zS;obtain⟨n,hn⟩:∃n,n=Qi s:=⟨_,rfl⟩;rw [<-hn];have HN:=Qq hn;unfold Nd.val;obtain⟨A1,c1,rfl,_⟩:=Qc mW;obtain⟨A2,c2,rfl,_⟩:=Qc qW;clear zS mW qW hn;have yY:=Qq (show Qg wq (w2.alloc (.cells #[.int .i64 n.op,.int .i64 n.i,.int .i64 n.e,.int .i64 n.g,.int .i64 n.x,.int .i64 n.y] 71))from zT.out.alloc _);have vY:=Qq (Qp9 HS.out);rw [<-HN.out,<-pK.out]at vY;rcases Qxz n with zI|⟨t3,t9,t13⟩
   ·have hb:=Qq (show Jh n=true by unfold Jh;rcases zI with e|e|e <;> rw [e] <;> rfl);have xS:ol.length+1<=maxLen:=by unfold maxLen;omega
    have xP:(ol.length+1)*24<=140737488355328:=by omega
    have QR:=Qq (show((n.op==3)=true)\/((n.op==3)=false/\(n.op==9)=true)\/((n.op==3)=false/\(n.op==9)=false/\(n.op==13)=true) by rcases zI with e|e|e <;> rw [e] <;> simp);clear zI;rcases QR.out with t3|⟨t3,t9⟩|⟨t3,t9,t13⟩
    all_goals
     go_wp2_with(at_builtin;refine wpList_append_own_at _ rfl _ _ 32 rfl w.heap.size 22 iI (.slice none 0 0) 1 24 Tryz.underlying32 pU vQ vP vO rfl (by decide) _ ol.length us rfl (Zg yO.out (yY.out.alloc _)) ⟨_,0,none⟩ 1 1 [.slice Au s.length cu] rfl rfl (Zt _ _ _ (by simp)) (fun u hu=>by rw [List.mem_singleton.1 hu];rfl) xS xP (Qx wW.out.ext.size (yY.out.alloc _).size) ?_);intro v7 w7 zW zX _ zF;have GH:=Qq (gD.out.next (by have:=HX.out.size;have:=yY.out.size;simp at this;omega) zF);have sL:=Qq (Qg.grown (HX.out.trans (yY.out.alloc (.cells #[.slice Au s.length cu] 22))) zX gD.out)
     have pC:=Qq (Ky.push (s:=s) ((wW.out.ext.trans yY.out).alloc _) (Zg yO.out (yY.out.alloc _)) (fun k s hk=>by
      obtain⟨u,a,b,c⟩:=lG.out k s hk;exact⟨u,a,b.ext (yY.out.alloc _),c.ext (yY.out.alloc _)⟩) zW zX (zF.imp id (fun e=>e.trans (by simp))) (HF.out.ext (yY.out.alloc _)) (Qic aS.out (Nat.le_refl _) gD.out (Qx HX.out.size (yY.out.alloc _).size)))
     obtain⟨A7,c7,rfl⟩:=Qt zW;clear zW zX zF;go_wp2_with fail;go_roundw
     case rel=>exact⟨k+1,by go_num,by omega,Qq ⟨_,by rw [vY.out,hb.out];rfl,pC.out,sL.out,GH.out⟩⟩
     case measure=>simp [intOf];omega
   have hb:=Qq (show Jh n=false by unfold Jh;rw [t3,t9,t13];rfl);go_wp2_with fail;go_roundw
   case rel=>exact⟨k+1,by go_num,by omega,Qq ⟨_,by rw [vY.out,hb.out];exact(List.append_nil _).symm,wW.out.ext_ yY.out,HX.out.trans yY.out,gD.out⟩⟩
   case measure=>simp [intOf];omega
  obtain rfl:sl.length=k:=by omega
  obtain⟨l0,qU⟩:∃l,l=Yw (Qs t):=⟨_,rfl⟩;have sH:=Qq qU;have OC:=Qq (show ol=l0 by rw [pK.out,qU,List.take_of_length_le (Nat.le_refl _),JC.out];rfl);clear qU;go_wp2_with fail;go_loopw [4,10] (fun vo vi wr=>∃k:Nat,vi=.int .i64 (k:Int)/\k<=12/\Hid (∃ol,ol=(Cd l0 k).foldl Ga l0/\(∀u∈Cd l0 k,u.length≠0)/\k<=ol.length/\ol.length<=216/\Ky w wr vo ol)) (fun _ v _=>13 - (intOf v).toNat)
  case atStart=>exact⟨0,rfl,Nat.zero_le _,Qq ⟨ol,OC.out,(fun u hu=>by cases hu),Nat.zero_le _,by omega,wW.out⟩⟩
  case round =>
   clear pK wW yO lG HX gD OC SE;obtain⟨k,rfl,hk,zY⟩:=hrel;obtain⟨ol,sZ,zQ,wR,SE,xM⟩:=zY.out;have pK:=Qq sZ;have iZ:=Qq zQ;have wW:=Qq xM;obtain⟨Ao,co,rfl⟩:=Qt xM.row.choose_spec.1;clear zY sZ zQ xM;by_cases hlt2:k < ol.length
   ·have yV:(k:Int) < (ol.length:Int):=by omega
    by_cases h12:12 < ol.length
    ·have ND:(12:Int) < (ol.length:Int):=by omega
     have HB:=Qq (show Kw (Qs t)=([],8)from Qxq (.inr (by rw [<-sH.out];exact Qpf (k:=k) (by rw [<-pK.out];exact h12))));go_wp2_with fail;go_ret2;exact⟨.slice none 0 0,by rw [HB.out] <;> rfl,wW.out.ext,by rw [HB.out];exact(Ky.nil _).before wW.out.ext⟩
    have ND:(ol.length:Int)<=12:=by omega
    obtain⟨s,hs⟩:∃s,ol[k]?=some s:=⟨_,Qv hlt2⟩;obtain⟨g0,cap0,nH,vS,xN⟩:=wW.out.slice (by omega);injection nH with hsl1 _ vR;subst hsl1 vR;unfold maxLen at xN;obtain⟨u,hu,hf,xK⟩:=wW.out.get hs;have HF:=Qq hf;have aP:=Qq (Qpb HT.out (k:=k) (ol:=ol) (c:=s) (by rw [<-sH.out];exact pK.out) (by rw [<-sH.out];exact iZ.out) hs);have HS:=Qq hs;obtain⟨su,WH,YN⟩:=aP.out.2;have sI:0 < s.length:=by rw [YN];exact Ud WH.xp.1.1
    have kP:=Qq (show Ze (Qi s) by
     have zU:=WH.check;rw [<-YN]at zU;exact Rh zU _ (List.mem_of_getElem? (Lx sI)))
    obtain⟨Au,cu,rfl,_⟩:=Qc hf;clear hs hf WH YN;obtain⟨wq,vC⟩:∃v,v=wr:=⟨_,rfl⟩;subst vC;go_wp2_with fail;refine(Ia _ s _ HF.out sI).mono ?_;rintro e w2 ⟨u1,u2,rfl,zS,mW,qW⟩;have zT:=Qq zS;obtain⟨n,hn⟩:∃n,n=Qi s:=⟨_,rfl⟩;rw [<-hn];have HN:=Qq hn;unfold Nd.val;obtain⟨A1,c1,rfl,_⟩:=Qc mW;obtain⟨A2,c2,rfl,_⟩:=Qc qW;clear zS mW qW hn;go_wp2_with fail;have uF:g0 < w2.heap.size:=Qy xK zT.out.size;obtain⟨W0,zK⟩:∃v,v=w2.alloc (.cells #[.int .i64 n.op,.int .i64 n.i,.int .i64 n.e,.int .i64 n.g,.int .i64 n.x,.int .i64 n.y] 71):=⟨_,rfl⟩;have VT:=Qq (show W0.heap[w2.heap.size]?=some (.cells #[.int .i64 n.op,.int .i64 n.i,.int .i64 n.e,.int .i64 n.g,.int .i64 n.x,.int .i64 n.y] 71 (0,0)) by rw [zK];exact heap_alloc_new _ _)
    have yY:=Qq (show Qg wq W0 by rw [zK];exact zT.out.alloc _);rw [<-zK];clear zK;by_cases zI:n.op=13
    ·have iP:=Qkj (by rw [HN.out];exact kP.out) (.inr zI);obtain⟨gn,vL⟩:=Int.eq_ofNat_of_zero_le iP.1;have SW:gn < 16:=by omega
     have mJ:=Qq vL;have dM:(n.op !=13)=false:=by rw [zI];rfl
     have xU:=Qq (show(Qi s).op=13 by rw [<-HN.out];exact zI);rw [vL]at VT;clear iP vL zI;go_loopw [4,65] (fun vo vi wr=>∃q:Nat,vi=.int .i64 (q:Int)/\q<=4/\Hid (∃ol2,ol2=(Tm s q).foldl Ga ol/\(∀u∈Tm s q,u.length≠0)/\ol2.length<=ol.length+q/\Ky w wr vo ol2/\Qg w wr/\wr.heap[w2.heap.size]?=some (.cells #[.int .i64 n.op,.int .i64 n.i,.int .i64 n.e,.int .i64 (gn:Int),.int .i64 n.x,.int .i64 n.y] 71 (0,0))/\vo.ownBlock≠some w2.heap.size)) (fun _ v _=>4 - (intOf v).toNat)
     case atStart=>exact⟨0,rfl,Nat.zero_le _,Qq ⟨ol,by rw [Qbv];rfl,(by intro u hu;rw [Qbv]at hu;cases hu),Nat.le_refl _,wW.out.ext_ yY.out,wW.out.ext.trans yY.out,VT.out,(fun e=>by injection e with e;simp at e;omega)⟩⟩
     case round =>
      obtain⟨q,rfl,hq,XL⟩:=hrel;obtain⟨ol2,cO,gL,LI,SZ,bU,dK,KX⟩:=XL.out;obtain⟨us2,sC,bY⟩:=SZ.row;have UR:=Qq cO;have UU:=Qq gL;have wA:=Qq SZ;have vZ:=Qq sC;have UA:=Qq bY;have eZ:=Qq dK;have eI:=Qq KX;have T6:=Qq (show ol <+: ol2 by rw [cO];exact Tj _ _);have yW:k < ol2.length:=Qy hlt2 T6.out.length_le;have vK:=Qq (show ol2[k]?=some s by
       obtain⟨r,hr⟩:=T6.out;rw [<-hr,List.getElem?_append_left hlt2];exact HS.out)
      obtain⟨g2,cap2,vR,jZ,sR⟩:=wA.out.slice (by omega);subst vR;unfold maxLen at sR;obtain⟨uu,huu,nO,sU⟩:=wA.out.get vK.out;have GI:=Qq nO;obtain⟨Au2,cu2,rfl,_⟩:=Qc nO;obtain⟨⟨q0,q1,q2,q3,q4,q5⟩,_,qb⟩:=Vc dK;clear XL cO gL SZ sC bY dK KX nO bU;have nM:(k:Int) < (ol2.length:Int):=by omega
      by_cases PY:q < 4
      ·have PZ:(q:Int) < 4:=by omega
       have tC:=Ip gn q (by omega);cases tV:gn.testBit q
       case false =>
        rw [tV]at tC;simp only [Bool.not_false]at tC;have HQ:=Qq (Zz0 (c:=s) (q:=q) (by rw [<-HN.out,mJ.out,show Vg (gn:Int) q=false from tV,Bool.and_false]));clear tV;go_wp2_with fail;go_roundw
        case rel=>exact⟨q+1,by go_num,by omega,Qq ⟨ol2,by rw [HQ.out];exact UR.out,by rw [HQ.out];exact UU.out,by omega,wA.out,wA.out.ext,eZ.out,eI.out⟩⟩
        case measure=>simp [intOf];omega
       case true =>
        rw [tV]at tC;simp only [Bool.not_true]at tC;have HQ:=Qq (Qoh (c:=s) (q:=q) (by rw [xU.out];rfl) (by rw [<-HN.out,mJ.out];exact tV));have D6:=Qq (Qbk xU.out q);clear tV;go_wp2_with fail;refine(Qj9 (q:Int) ⟨by omega,by omega⟩ _ s _ GI.out sI).mono ?_;rintro e w3 ⟨u3,rfl,lQ⟩;rw [D6.out]at lQ;have mH:=Qq lQ;obtain⟨A3,c3,rfl,_⟩:=Qc lQ.fml;clear lQ;by_cases hz:(Ua q s).length=0
        ·have rQ:(((Ua q s).length:Int)==0)=true:=by rw [hz];rfl
         have HB:=Qq (show Kw (Qs t)=([],8)from Qxq (.inl (by
          rw [<-sH.out];refine Qa6 (k:=k+1) (u:=Ua q s) ?_ hz;rw [sH.out,aP.out.1];refine List.mem_append_right _ (Qoc (q:=q+1) (by omega) ?_);rw [HQ.out]
          simp)))
         generalize (Ua q s).length=m8 at hz rQ;clear hz;go_wp2_with fail;go_ret2;exact⟨.slice none 0 0,by rw [HB.out] <;> rfl,wA.out.ext.trans mH.out.ext,by rw [HB.out];exact(Ky.nil _).before (wA.out.ext.trans mH.out.ext)⟩
        have rQ:(((Ua q s).length:Int)==0)=false:=by rw [beq_eq_false_iff_ne];omega
        have HZ:=Qq hz;have OE:=Qq (show ∀u∈Tm s (q+1),u.length≠0 by
         rw [HQ.out];intro u hu;rcases List.mem_append.1 hu with hu|hu
         ·exact UU.out u hu
         rw [List.mem_singleton.1 hu];exact hz)
        have UQ:=Qq (show Ga ol2 (Ua q s)=(Tm s (q+1)).foldl Ga ol by rw [HQ.out,List.foldl_append,<-UR.out];rfl);clear hz;generalize Ua q s=g8 at mH rQ UQ;go_wp2_with fail;refine(Qjd _ _ ol2 g8 _ (wA.out.fmls.ext mH.out.ext) mH.out.fml).mono ?_;rintro e w4 ⟨rfl,yA⟩;have yP:=Qq (mH.out.ext.trans yA);have NI:=Qq yA;clear yA;by_cases hp:Yr ol2 g8 < 0
        ·have fF:=Qq (show Ga ol2 g8=ol2++ [g8] by unfold Ga;rw [decide_eq_true hp];rfl);generalize Yr ol2 g8=pz at hp;have xS:ol2.length+1<=maxLen:=by unfold maxLen;omega
         have xP:(ol2.length+1)*24<=140737488355328:=by omega
         go_wp2_with(at_builtin;refine wpList_append_own_at _ rfl _ _ 32 rfl w.heap.size 22 iI (.slice none 0 0) 1 24 Tryz.underlying32 pU vQ vP vO rfl (by decide) _ ol2.length us2 rfl (Zg vZ.out (yP.out.alloc _)) ⟨_,0,none⟩ 1 1 [.slice A3 g8.length c3] rfl rfl (Zt _ _ _ (by simp)) (fun u hu=>by rw [List.mem_singleton.1 hu];rfl) xS xP (Qx wA.out.ext.size (yP.out.alloc _).size) ?_);intro v7 w7 zW zX _ zF;have PH:=Qq (show w7.heap[w2.heap.size]?=some (.cells #[.int .i64 n.op,.int .i64 n.i,.int .i64 n.e,.int .i64 (gn:Int),.int .i64 n.x,.int .i64 n.y] 71 (0,0))from(zX.block _ (Qy qb (yP.out.alloc _).size) (fun e=>eI.out e.symm)).trans (((yP.out.alloc _).block qb).trans eZ.out))
         have FL:=Qq (show v7.ownBlock≠some w2.heap.size from fun e=>by
          rcases zF with e1|e1
          ·exact eI.out (e1▸e)
          rw [e1]at e;injection e with e;have:=(yP.out).size;omega)
         have pC:=Qq (Ky.push (s:=g8) ((wA.out.ext.trans yP.out).alloc _) (Zg vZ.out (yP.out.alloc _)) (fun k s hk=>by
          obtain⟨u,a,b,c⟩:=UA.out k s hk;exact⟨u,a,b.ext (yP.out.alloc _),c.ext (yP.out.alloc _)⟩) zW zX (zF.imp id (fun e=>e.trans (by simp))) (mH.out.fml.ext (NI.out.alloc _)) (Lg (Nat.le_refl _) (Zg mH.out.1 (NI.out.alloc _)) vZ.out wA.out.ext.size))
         obtain⟨A7,c7,rfl⟩:=Qt zW;clear zW zX zF;go_wp2_with fail;go_roundw
         case rel=>exact⟨q+1,by go_num,by omega,Qq ⟨_,by rw [<-UQ.out,fF.out],OE.out,by rw [List.length_append,List.length_singleton];omega,pC.out,pC.out.ext,PH.out,FL.out⟩⟩
         case measure=>simp [intOf];omega
        have fF:=Qq (show Ga ol2 g8=ol2 by unfold Ga;rw [decide_eq_false hp];rfl);generalize Yr ol2 g8=pz at hp;go_wp2_with fail;go_roundw
        case rel=>exact⟨q+1,by go_num,by omega,Qq ⟨ol2,by rw [<-UQ.out,fF.out],OE.out,by omega,wA.out.ext_ yP.out,wA.out.ext.trans yP.out,(yP.out.block qb).trans eZ.out,eI.out⟩⟩
        case measure=>simp [intOf];omega
      obtain rfl:4=q:=by omega
      go_wp2_with fail;go_roundw
      case rel=>exact⟨k+1,by go_num,by omega,Qq ⟨ol2,by rw [sH.out,aP.out.1,List.foldl_append,<-sH.out,<-pK.out,<-Qj8];exact UR.out,(by
       rw [sH.out,aP.out.1];intro u hu;rcases List.mem_append.1 hu with hu|hu
       ·exact iZ.out u (by rw [sH.out];exact hu)
       exact UU.out u (by rw [Qj8];exact hu)),by omega,by omega,wA.out⟩⟩
      case measure=>simp [intOf];omega
    have dM:(n.op !=13)=true:=by simpa using zI
    have S9:=Qq (show Kz s= [] by unfold Kz;rw [<-HN.out,show(n.op==13)=false by simpa using zI];rfl);obtain⟨⟨q0,q1,q2,q3,q4,q5⟩,_,qb⟩:=Vc VT.out;clear zI;go_loopw [4,65] (fun vo vi wr=>∃q:Nat,vi=.int .i64 (q:Int)/\q<=4/\vo=.slice (some ⟨g0,0,none⟩) ol.length co/\wr=W0) (fun _ v _=>4 - (intOf v).toNat)
    case atStart=>exact⟨0,rfl,Nat.zero_le _,rfl,rfl⟩
    case round =>
     obtain⟨q,rfl,hq,rfl,rfl⟩:=hrel;by_cases PY:q < 4
     ·have PZ:(q:Int) < 4:=by omega
      go_wp2_with fail;go_roundw
      case rel=>exact⟨q+1,by go_num,by omega,by first|rfl|trivial,by first|rfl|trivial⟩
      case measure=>simp [intOf];omega
     obtain rfl:4=q:=by omega
     go_wp2_with fail;go_roundw
     case rel=>exact⟨k+1,by go_num,by omega,Qq ⟨ol,by rw [sH.out,aP.out.1,S9.out,List.append_nil,<-sH.out];exact pK.out,(by
      rw [sH.out,aP.out.1,S9.out,List.append_nil,<-sH.out];exact iZ.out),by omega,by omega,wW.out.ext_ yY.out⟩⟩
     case measure=>simp [intOf];omega
   obtain rfl:ol.length=k:=by omega
   have HB:=Qq (show Kw (Qs t)=(ol,0) by
    have hl:l0.length<=ol.length:=by rw [pK.out];exact Qd5 _ _
    have tJ:=Zz5 (l0:=l0) (k:=ol.length) hl;have h1:=pK.out;rw [tJ]at h1;rw [Qrl,<-sH.out,<-h1]
    ·rw [<-sH.out,<-tJ];exact iZ.out
    rw [<-sH.out,<-h1];exact hk)
   have ND:(ol.length:Int)<=12:=by omega
   go_wp2_with fail;go_ret2;exact⟨_,by rw [HB.out] <;> rfl,wW.out.ext,by rw [HB.out];exact wW.out⟩
theorem Zq4:(List.range 512).all (fun m=>(bits .andNot .i64 (m:Int) 11 !=0)==((m&&&500) !=0))=true:=by kernel_rfl
theorem Qc1(f:List Nd):(bits .andNot .i64 (Jp f:Nat) 11 !=0)=Nf f:=by
 have h:=List.all_eq_true.1 Zq4 (Jp f) (List.mem_range.2 (Pd _));exact eq_of_beq h
theorem Qdn(v:Value)(f:List Nd)(w:World)(h:Yq w v f):
 Calls Tryz.prog 18 #[v] w (Qsr w (Qp f)):=by
 have H:=Qq h;obtain⟨A,c,rfl,_⟩:=Qc h;clear h;by_cases hc:check f≠0
 ·have yS:(check f !=0)=true:=by simpa using hc
  have HB:=Qq (show Qp f=([],check f) by unfold Qp;rw [yS];rfl);clear hc;go_enter Tryz.func18,Tryz.ntmps18;go_wp2_with fail;refine(Vw _ f _ H.out.1).mono ?_;rintro e w1 ⟨rfl,hb⟩;have HX:=Qq hb;clear hb;go_wp2_with fail;go_ret2;exact⟨.slice none 0 0,by rw [HB.out] <;> rfl,HX.out,by rw [HB.out];exact(Ky.nil _).before HX.out⟩
 have hc:check f=0:=Classical.not_not.1 hc;have yS:(check f !=0)=false:=by simpa using hc
 have wN:((check f==0))=true:=by simpa using hc
 have HC:=Qq hc;clear hc;have zJ:=Qc1 f;cases hl:Nf f
 case true =>
  rw [hl]at zJ;have HB:=Qq (show Qp f=([],10) by unfold Qp;rw [yS,hl];rfl);clear hl;go_enter Tryz.func18,Tryz.ntmps18;go_wp2_with fail;refine(Vw _ f _ H.out.1).mono ?_;rintro e w1 ⟨rfl,hb⟩;have HX:=Qq hb;clear hb;go_wp2_with fail;refine(Rp _ f _ (H.out.ext HX.out)).mono ?_;rintro e w2 ⟨rfl,hb⟩;have zT:=Qq (HX.out.trans hb);clear hb;go_wp2_with fail;go_ret2;exact⟨.slice none 0 0,by rw [HB.out] <;> rfl,zT.out,by rw [HB.out];exact(Ky.nil _).before zT.out⟩
 case false =>
  rw [hl]at zJ;have HL:=Qq hl;clear hl;by_cases hz:(Ji f).length=0
  ·have HB:=Qq (show Qp f=([],8) by unfold Qp;rw [yS,HL.out,decide_eq_true hz];rfl);have rQ:(((Ji f).length:Int)==0)=true:=by rw [hz];rfl
   clear hz;go_enter Tryz.func18,Tryz.ntmps18;go_wp2_with fail;refine(Vw _ f _ H.out.1).mono ?_;rintro e w1 ⟨rfl,hb⟩;have HX:=Qq hb;clear hb;go_wp2_with fail;refine(Rp _ f _ (H.out.ext HX.out)).mono ?_;rintro e w2 ⟨rfl,hb⟩;have zT:=Qq (HX.out.trans hb);clear hb;go_wp2_with fail;refine(Qqd _ f _ (H.out.ext zT.out) HC.out (Em HC.out HL.out)).mono ?_;rintro e w3 ⟨u,rfl,hf,hb⟩;have HF:=Qq hf;have zB:=Qq (zT.out.trans hb);obtain⟨A3,c3,rfl,_⟩:=Qc hf;clear hb hf;go_wp2_with fail;go_ret2;exact⟨.slice none 0 0,by rw [HB.out] <;> rfl,zB.out,by rw [HB.out];exact(Ky.nil _).before zB.out⟩
  have rQ:(((Ji f).length:Int)==0)=false:=by rw [beq_eq_false_iff_ne];omega
  have HB:=Qq (show Qp f=Kw (Ji f) by unfold Qp;rw [yS,HL.out,decide_eq_false hz];rfl);have HT:=Qq (Qvv HC.out HL.out hz);clear hz;go_enter Tryz.func18,Tryz.ntmps18;go_wp2_with fail;refine(Vw _ f _ H.out.1).mono ?_;rintro e w1 ⟨rfl,hb⟩;have HX:=Qq hb;clear hb;go_wp2_with fail;refine(Rp _ f _ (H.out.ext HX.out)).mono ?_;rintro e w2 ⟨rfl,hb⟩;have zT:=Qq (HX.out.trans hb);clear hb;go_wp2_with fail;refine(Qqd _ f _ (H.out.ext zT.out) HC.out (Em HC.out HL.out)).mono ?_;rintro e w3 ⟨u,rfl,hf,hb⟩;have HF:=Qq hf;have zB:=Qq (zT.out.trans hb);obtain⟨A3,c3,rfl,_⟩:=Qc hf
  clear hb hf;go_wp2_with fail;refine(Qt4 _ _ _ HT.out.1 (by rw [<-HT.out.2];exact HF.out)).mono ?_;rintro e w4 ⟨u4,rfl,yA,uR⟩;have yP:=Qq (zB.out.trans yA);have JE:=Qq (uR.before zB.out);rw [<-HT.out.2,<-HB.out]at JE⊢;clear yA uR;go_wp2_with fail;go_ret2;exact⟨_,rfl,yP.out,JE.out⟩
structure Bd (w:World) (b g:Nat) (lg:Int) (base:List (List Nd)) (root:List Bool) (ks:List Kn) (cs:List Cm) (alive:List Bool):Prop where
 keep:∀w':World,w.heap.size<=w'.heap.size->(∀k,k≠g->k < w.heap.size->w'.heap[k]?=w.heap[k]?)->∃vb vr vk vc,w'.heap[b]?=some (.cells #[.int .i64 lg,vb,vr,vk,vc,.slice (some ⟨g,0,none⟩) alive.length alive.length] 93 (0,0))/\Dd w' vb base/\Kc w' vr root/\Kns w' vk ks/\Cms w' vc cs
 row:Ks g w g alive
section
variable {w w':World} {b g:Nat} {lg:Int} {base:List (List Nd)} {root:List Bool} {ks:List Kn} {cs:List Cm} {alive:List Bool}
theorem Bd.eng(h:Bd w b g lg base root ks cs alive):Ex w b lg base root ks cs alive:=by
 obtain⟨vb,vr,vk,vc,h0,h1,h2,h3,h4⟩:=h.keep w (Nat.le_refl _) (fun _ _ _=>rfl);exact⟨vb,vr,vk,vc,_,h0,h1,h2,h3,h4,h.row.bools⟩
theorem Bd.ext(h:Bd w b g lg base root ks cs alive)(he:Qg w w'):Bd w' b g lg base root ks cs alive :=
 ⟨fun w2 h1 h2=>h.keep w2 (Qx he.size h1) (fun k hk hl=>(h2 k hk (Qy hl he.size)).trans (he.block hl)),h.row.ext he⟩
theorem Bd.set(h:Bd w b g lg base root ks cs alive)(j:Nat)(x:Bool):Bd (w.setCell ⟨g,j,none⟩ (.bool x)) b g lg base root ks cs (alive.set j x):=by
 refine⟨fun w2 h1 h2=> ?_,(h.row.set j x).1⟩;rw [List.length_set];have e:(w.setCell ⟨g,j,none⟩ (.bool x)).heap.size=w.heap.size:=by simp [World.setCell]
 rw [e]at h1 h2;exact h.keep w2 h1 (fun k hk hl=>(h2 k hk hl).trans (Below.heap_setCell _ _ _ _ hk))
theorem Bd.grown {r:Option Nat}(h:Bd w b g lg base root ks cs alive)(hg:w.grownBy w' r)(hr:∀k,r=some k->w.heap.size<=k):Bd w' b g lg base root ks cs alive :=
 h.ext ((Qg.refl w).grown hg hr)
theorem Bd.cells(h:Bd w b g lg base root ks cs alive):∃Ab cb Ar cr,w.cell? ⟨b,0,none⟩=some (.int .i64 lg)/\w.cell? ⟨b,1,none⟩=some (.slice Ab base.length cb)/\w.cell? ⟨b,2,none⟩=some (.slice Ar root.length cr)/\w.cell? ⟨b,5,none⟩=some (.slice (some ⟨g,0,none⟩) alive.length alive.length)/\b < w.heap.size:=by
 obtain⟨vb,vr,vk,vc,h0,⟨Ab,cb,rfl,_⟩,⟨Ar,cr,rfl,_⟩,_,_⟩:=h.keep w (Nat.le_refl _) (fun _ _ _=>rfl);obtain⟨⟨d0,d1,d2,d3,d4,d5⟩,_,hl⟩:=Vc h0;exact⟨Ab,cb,Ar,cr,d0,d1,d2,d5,hl⟩
end
theorem Zjf {lg:Int} {ks:List Kn} {cs:List Cm} {m:Nat} {al:List Bool} {t:Nat} {i:Int}(h0: -4<=i)(h1:i < m)(h:Vr lg ks cs al t i=true)(hn:∀j:Int,-4<=j->j < i->Vr lg ks cs al t j=false):Tc lg ks cs m al t=some i:=by
 unfold Tc;rw [List.find?_map];have e:(List.range (m+4)).find? ((fun i=>Vr lg ks cs al t i) ∘ fun(j:Nat)=>(j:Int) - 4)=some (i+4).toNat:=by
  rw [List.find?_range_eq_some];refine⟨?_,List.mem_range.2 (by omega),fun j hj=> ?_⟩
  ·show Vr lg ks cs al t (((i+4).toNat:Nat) - 4:Int)=true;rw [show(((i+4).toNat:Nat) - 4:Int)=i by omega];exact h
  show(!Vr lg ks cs al t ((j:Int) - 4))=true;rw [hn _ (by omega) (by omega)];rfl
 rw [e];show some ((((i+4).toNat:Nat):Int) - 4)=some i
 congr 1
 omega
theorem Qoi {lg:Int} {ks:List Kn} {cs:List Cm} {m:Nat} {al:List Bool} {t:Nat}(hn:∀j:Int,-4<=j->j < m->Vr lg ks cs al t j=false):Tc lg ks cs m al t=none:=by
 unfold Tc;rw [List.find?_eq_none];intro i hi;obtain⟨j,hj,rfl⟩:=List.mem_map.1 hi;have:=List.mem_range.1 hj;rw [hn _ (by omega) (by omega)];simp
theorem Qhi {why:List Bool->Nat->Option Int}(k:Nat)(s:List Bool×List (Nat×Int)):Xj why (List.range (k+1)) s=Ub why (Xj why (List.range k) s) k:=by
 rw [List.range_succ,Qvd];rfl
def Qkw(l:List Nat):List Value:=l.map fun(u:Nat)=>Value.int .u64 (u:Int)
def Qkx(l:List Int):List Value:=l.map fun(u:Int)=>Value.int .i64 u
def Yv(X:Nat->Prop)(w w':World):Prop:=w.heap.size<=w'.heap.size/\∀k,¬X k->k < w.heap.size->w'.heap[k]?=w.heap[k]?
def Vs(X:Nat->Prop)(w:World)(P:World->Prop):Prop:=∀w',Yv X w w'->P w'
section
variable {X X':Nat->Prop} {w w':World} {P:World->Prop}
theorem Yv.of_ext(h:Qg w w'):Yv X w w':=⟨h.size,fun _ _ hk=>h.block hk⟩
theorem Yv.trans {w2:World}(h:Yv X w w')(h2:Yv X' w' w2)(hx:∀k,k < w.heap.size->X' k->X k):Yv X w w2 :=
 ⟨Qx h.1 h2.1,fun k hk hl=>(h2.2 k (fun e=>hk (hx k hl e)) (Qy hl h.1)).trans (h.2 k hk hl)⟩
theorem Vs.next(h:Vs X w P)(hs:Yv X w w')(hx:∀k,k < w.heap.size->X' k->X k):Vs X' w' P:=fun w2 h2=>h w2 (hs.trans h2 hx)
theorem Vs.here(h:Vs X w P):P w:=h w ⟨Nat.le_refl _,fun _ _ _=>rfl⟩
theorem Vs.of_row {base g:Nat} {l:List Bool}(h:Ks base w g l)(hg:¬X g):Vs X w fun w'=>Kc w' (.slice (some ⟨g,0,none⟩) l.length l.length) l:=fun w2 h2=>by
 have:Ks base w2 g l:=Zp h fun k hk=>by
  have e:k=g:=by injection hk with hk;exact hk.symm
  subst e;exact h2.2 k hg h.lt.2
 exact this.bools
theorem Qps(w:World):Kc w (.slice none 0 0) []:=⟨none,0,rfl,Nat.le_refl _,by unfold maxLen;omega,fun h=>absurd rfl h⟩
theorem Qfx {α:Type} {f:α->List Value} {c:Nat}(hf:∀a,(f a).length=c):∀(l:List α) (k:Nat) (n:α) (j:Nat),l[k]?=some n->j < c->(l.flatMap f)[k*c+j]?=(f n)[j]?
 |[],k,n,j,h,_=>by simp at h
 |m :: r,0,n,j,h,hj=>by
  simp only [List.getElem?_cons_zero,Option.some.injEq]at h;subst h;rw [List.flatMap_cons,List.getElem?_append_left (by rw [hf];omega)];simp
 |m :: r,k+1,n,j,h,hj=>by
  rw [List.flatMap_cons,List.getElem?_append_right (by rw [hf,Nat.add_mul];omega)];have e:(k+1)*c+j - (f m).length=k*c+j:=by rw [hf,Nat.add_mul];omega
  rw [e];exact Qfx hf r k n j (by simpa using h) hj
theorem Qf3 {α:Type} {f:α->List Value} {c base:Nat} {e:TypeId} {v:Value} {l:List α}(hf:∀a,(f a).length=c)(h:w.ownsRow base e c v l.length (l.flatMap f)):
 ∃A cap,v=.slice A l.length cap/\l.length<=cap/\cap<=maxLen/\(l≠ []->∃g,A=some ⟨g,0,none⟩/\g < w.heap.size/\∀k n,l[k]?=some n->∀j,j < c->∀u,(f n)[j]?=some u->w.cell? ⟨g,k*c+j,none⟩=some u):=by
 obtain⟨_,h2⟩:=h;rcases h2 with⟨rfl,h0⟩|⟨g,cap,cur,rfl,hb,hg,hn,xR,mP,oG⟩
 ·have:l= []:=List.length_eq_zero_iff.1 h0;subst this;exact⟨none,0,rfl,Nat.le_refl _,by unfold maxLen;omega,fun h=>absurd rfl h⟩
 refine⟨some ⟨g,0,none⟩,cap,rfl,hn,xR,fun zQ=>⟨g,rfl,Qn hg,fun k n hk j hj u hu=> ?_⟩⟩;have h1:=Qfx hf l k n j hk hj;rw [<-oG,hu]at h1;have h2:cur[k*c+j]?=some u:=by
  rw [List.getElem?_take]at h1
  split at h1
  ·simpa using h1
  cases h1
 simp [World.cell?,hg,h2]
end
def knV(r:Kn×Value):List Value:= [.int .i64 r.1.agent,.int .i64 (r.1.place:Int),r.2]
def cmV(r:Cm×Value×Value):List Value:= [.int .i64 (r.1.place:Int),.int .i64 r.1.group,r.2.1,r.2.2,.int .u64 (r.1.parts:Int)]
section
variable {w w':World} {base:Nat} {v:Value}
theorem Ql8 {rs:List (Kn×Value)}(h:w.ownsRow base 136 3 v rs.length (rs.flatMap knV))(hb:∀r∈rs,Kc w r.2 r.1.holds):Kns w v (rs.map Prod.fst):=by
 obtain⟨A,cap,rfl,h1,h2,h3⟩:=Qf3 (f:=knV) (c:=3) (fun _=>rfl) h;refine⟨A,cap,by rw [List.length_map],by rw [List.length_map];exact h1,h2,fun hn=> ?_⟩;obtain⟨g,rfl,hg,hc⟩:=h3 (fun e=>hn (by rw [e];rfl));refine⟨_,rfl,hg,fun k n hk=> ?_⟩;rw [List.getElem?_map]at hk;cases hr:rs[k]? with
 |none=>rw [hr]at hk;cases hk
 |some r =>
  rw [hr]at hk;obtain rfl:r.1=n:=by simpa using hk
  have e0:((⟨g,0,none⟩:Addr).add (k*3))=⟨g,k*3,none⟩:=by
   unfold Addr.add
   split
   ·rename_i h;rw [h]
   simp
  rw [e0];exact⟨r.2,hc k r hr 0 (by omega) _ rfl,hc k r hr 1 (by omega) _ rfl,hc k r hr 2 (by omega) _ rfl,hb r (List.mem_of_getElem? hr)⟩
theorem Qly {rs:List (Cm×Value×Value)}(h:w.ownsRow base 138 5 v rs.length (rs.flatMap cmV))(hb:∀r∈rs,Kc w r.2.1 r.1.x/\Kc w r.2.2 r.1.y):Cms w v (rs.map Prod.fst):=by
 obtain⟨A,cap,rfl,h1,h2,h3⟩:=Qf3 (f:=cmV) (c:=5) (fun _=>rfl) h;refine⟨A,cap,by rw [List.length_map],by rw [List.length_map];exact h1,h2,fun hn=> ?_⟩;obtain⟨g,rfl,hg,hc⟩:=h3 (fun e=>hn (by rw [e];rfl));refine⟨_,rfl,hg,fun k n hk=> ?_⟩;rw [List.getElem?_map]at hk;cases hr:rs[k]? with
 |none=>rw [hr]at hk;cases hk
 |some r =>
  rw [hr]at hk;obtain rfl:r.1=n:=by simpa using hk
  have e0:((⟨g,0,none⟩:Addr).add (k*5))=⟨g,k*5,none⟩:=by
   unfold Addr.add
   split
   ·rename_i h;rw [h]
   simp
  rw [e0];have hm:=hb r (List.mem_of_getElem? hr);exact⟨r.2.1,r.2.2,hc k r hr 0 (by omega) _ rfl,hc k r hr 1 (by omega) _ rfl,hc k r hr 2 (by omega) _ rfl,hc k r hr 3 (by omega) _ rfl,hc k r hr 4 (by omega) _ rfl,hm.1,hm.2⟩
end
def Sw(b g:Nat)(vk vc:Value)(k:Nat):Prop:=k=b\/k=g\/vk.ownBlock=some k\/vc.ownBlock=some k
structure Xt (w1 w:World) (b g:Nat) (lg:Int) (base:List (List Nd)) (root:List Bool) (ks:List Kn) (cs:List Cm) (alive:List Bool) (vk vc:Value):Prop where
 ext:Qg w1 w
 lo:w1.heap.size<=b/\b≠g
 cells:∃vb vr,w.heap[b]?=some (.cells #[.int .i64 lg,vb,vr,vk,vc,.slice (some ⟨g,0,none⟩) alive.length alive.length] 93 (0,0))/\Dd w1 vb base/\Vs (Sw b g vk vc) w (fun w'=>Kc w' vr root)
 al:Ks w1.heap.size w g alive
 kn:∃rs:List (Kn×Value),rs.map Prod.fst=ks/\w.ownsRow w1.heap.size 136 3 vk rs.length (rs.flatMap knV)/\∀r∈rs,Vs (Sw b g vk vc) w (fun w'=>Kc w' r.2 r.1.holds)
 cm:∃rs:List (Cm×Value×Value),rs.map Prod.fst=cs/\w.ownsRow w1.heap.size 138 5 vc rs.length (rs.flatMap cmV)/\∀r∈rs,Vs (Sw b g vk vc) w (fun w'=>Kc w' r.2.1 r.1.x)/\Vs (Sw b g vk vc) w (fun w'=>Kc w' r.2.2 r.1.y)
 dk:vk.ownBlock≠some b/\vk.ownBlock≠some g
 dc:vc.ownBlock≠some b/\vc.ownBlock≠some g
 dd:∀k,vk.ownBlock=some k->vc.ownBlock≠some k
section
variable {w1 w w':World} {b g:Nat} {lg:Int} {base:List (List Nd)} {root:List Bool} {ks:List Kn} {cs:List Cm} {alive:List Bool} {vk vc:Value}
theorem Xt.blt(h:Xt w1 w b g lg base root ks cs alive vk vc):b < w.heap.size:=by
 obtain⟨_,_,hb,_⟩:=h.cells;exact Qn hb
theorem Xt.next(h:Xt w1 w b g lg base root ks cs alive vk vc)(he:Qg w w'):Xt w1 w' b g lg base root ks cs alive vk vc:=by
 refine⟨h.ext.trans he,h.lo,?_,h.al.ext he,?_,?_,h.dk,h.dc,h.dd⟩
 ·obtain⟨vb,vr,hb,h1,h2⟩:=h.cells;exact⟨vb,vr,(he.block (Qn hb)).trans hb,h1,h2.next (Yv.of_ext he) fun _ _ h=>h⟩
 ·obtain⟨rs,e,h1,h2⟩:=h.kn;exact⟨rs,e,Zg h1 he,fun r hr=>(h2 r hr).next (Yv.of_ext he) fun _ _ h=>h⟩
 obtain⟨rs,e,h1,h2⟩:=h.cm;exact⟨rs,e,Zg h1 he,fun r hr=>⟨(h2 r hr).1.next (Yv.of_ext he) fun _ _ h=>h,(h2 r hr).2.next (Yv.of_ext he) fun _ _ h=>h⟩⟩
theorem Qoy {e:TypeId} {size n c m:Nat} {bs:Nat} {xs:List Value}(h:w.ownsRow bs e size (.slice (some ⟨g,0,none⟩) n c) m xs):w.ownsRow g e size (.slice (some ⟨g,0,none⟩) n c) m xs:=by
 obtain⟨h1,h2⟩:=h;refine⟨h1,?_⟩;rcases h2 with h2|⟨g',cap,cur,e,h3,h4⟩
 ·exact .inl h2
 have hg:g'=g:=by
  injection e with e;injection e with e;injection e with e;exact e.symm
 exact .inr ⟨g',cap,cur,e,by omega,h4⟩
theorem Xt.engX(h:Xt w1 w b g lg base root ks cs alive vk vc):Bd w b g lg base root ks cs alive:=by
 refine⟨fun w2 h1 h2=> ?_,Qoy h.al⟩;have hs:Yv (Sw b g vk vc) w w2:=⟨h1,fun k hk hl=>h2 k (fun e=>hk (.inr (.inl e))) hl⟩;obtain⟨vb,vr,hb,hf,hr⟩:=h.cells;obtain⟨rs,rfl,k1,k2⟩:=h.kn;obtain⟨ss,rfl,c1,c2⟩:=h.cm;have he:Qg w1 { w2 with os:=w1.os,tape:=w1.tape,output:=w1.output } :=⟨rfl,rfl,rfl,Qx h.ext.size h1,fun k hk=>(h2 k (fun e=>by have:=h.al.lt.1;omega) (Qy hk h.ext.size)).trans (h.ext.block hk)⟩;have QL:=hf.ext he;have qW:Dd w2 vb base:=QL;refine⟨vb,vr,vk,vc,(h2 b h.lo.2 (Qn hb)).trans hb,qW,hr w2 hs,Ql8 (Zp k1 fun k hk=>h2 k (fun e=>h.dk.2 (e▸hk)) (k1.lt k hk).2) fun r hr=>k2 r hr w2 hs,Qly (Zp c1 fun k hk=>h2 k (fun e=>h.dc.2 (e▸hk)) (c1.lt k hk).2) fun r hr=>⟨(c2 r hr).1 w2 hs,(c2 r hr).2 w2 hs⟩⟩
theorem Qzx {a0 a1 a2 a3 a4 a5 u:Value} {t:TypeId}(h:w.heap[b]?=some (.cells #[a0,a1,a2,a3,a4,a5] t (0,0))):
 (w.setCell ⟨b,2,none⟩ u).heap[b]?=some (.cells #[a0,a1,u,a3,a4,a5] t (0,0))/\(w.setCell ⟨b,3,none⟩ u).heap[b]?=some (.cells #[a0,a1,a2,u,a4,a5] t (0,0))/\(w.setCell ⟨b,4,none⟩ u).heap[b]?=some (.cells #[a0,a1,a2,a3,u,a5] t (0,0)):=by
 refine⟨?_,?_,?_⟩ <;>(simp only [World.setCell,Array.getElem?_modify,h,if_true,Option.map_some];simp)
theorem Eo(k:Nat)(u:Value):Yv (fun x=>x=b) w (w.setCell ⟨b,k,none⟩ u):=
 ⟨by simp [World.setCell],fun x hx _=>Below.heap_setCell _ _ _ _ hx⟩
theorem Qxl {r:Option Nat}(h:w.grownBy w' r):Yv (fun x=>r=some x) w w':=⟨h.size,fun k hk hl=>h.block k hl (fun e=>hk e.symm)⟩
theorem Qgs {a:World}(h:Qg a w)(hb:a.heap.size<=b)(k:Nat)(u:Value):Qg a (w.setCell ⟨b,k,none⟩ u):=h.setCell (p:=⟨b,k,none⟩) hb u
theorem Xt.root_ {vr:Value} {root':List Bool}(h:Xt w1 w b g lg base root ks cs alive vk vc)(hr:Vs (Sw b g vk vc) w (fun w'=>Kc w' vr root')):Xt w1 (w.setCell ⟨b,2,none⟩ vr) b g lg base root' ks cs alive vk vc:=by
 have hs:=Eo (w:=w) (b:=b) 2 vr;have hx:∀k,k < w.heap.size->Sw b g vk vc k->Sw b g vk vc k:=fun _ _ h=>h
 have WL:Yv (Sw b g vk vc) w (w.setCell ⟨b,2,none⟩ vr):=⟨hs.1,fun k hk hl=>hs.2 k (fun e=>hk (.inl e)) hl⟩;refine⟨Qgs h.ext h.lo.1 2 vr,h.lo,?_,Zp h.al fun k hk=>hs.2 k (fun e=> ?_) ?_,?_,?_,h.dk,h.dc,h.dd⟩
 ·obtain⟨vb,_,hb,h1,_⟩:=h.cells;exact⟨vb,vr,(Qzx hb).1,h1,hr.next WL hx⟩
 ·have:k=g:=by injection hk with hk;exact hk.symm
  exact h.lo.2 (by omega)
 ·exact by have e:k=g:=by injection hk with hk;exact hk.symm
           rw [e];exact h.al.lt.2
 ·obtain⟨rs,e,h1,h2⟩:=h.kn;exact⟨rs,e,Zp h1 fun k hk=>hs.2 k (fun e=>h.dk.1 (e▸hk)) (h1.lt k hk).2,fun r hr=>(h2 r hr).next WL hx⟩
 obtain⟨rs,e,h1,h2⟩:=h.cm;exact⟨rs,e,Zp h1 fun k hk=>hs.2 k (fun e=>h.dc.1 (e▸hk)) (h1.lt k hk).2,fun r hr=>⟨(h2 r hr).1.next WL hx,(h2 r hr).2.next WL hx⟩⟩
theorem Xt.know {w4:World} {c:Obj} {vk' vh:Value} {n:Kn} {rs:List (Kn×Value)}(h:Xt w1 w b g lg base root ks cs alive vk vc)(lA:rs.map Prod.fst=ks)(uX:∀r∈rs,Vs (Sw b g vk vc) w (fun w'=>Kc w' r.2 r.1.holds))
 (hh:Vs (fun k=>Sw b g vk vc k) w (fun w'=>Kc w' vh n.holds))(zR:w4.ownsRow w1.heap.size 136 3 vk' (rs.length+1) (rs.flatMap knV++knV (n,vh)))(hg:(w.alloc c).grownBy w4 vk.ownBlock)(ho:vk'.ownBlock=vk.ownBlock\/vk'.ownBlock=some (w.alloc c).heap.size):
 Xt w1 (w4.setCell ⟨b,3,none⟩ vk') b g lg base root (ks++ [n]) cs alive vk' vc:=by
 have vS:Yv (fun x=>vk.ownBlock=some x) w w4:=(Yv.of_ext ((Qg.refl w).alloc c)).trans (Qxl hg) (fun _ _ h=>h);have mP:w.heap.size < (w.alloc c).heap.size:=by simp
 have xN:Yv (fun x=>x=b\/vk.ownBlock=some x) w (w4.setCell ⟨b,3,none⟩ vk'):=by
  refine⟨by rw [show(w4.setCell ⟨b,3,none⟩ vk').heap.size=w4.heap.size by simp [World.setCell]];exact vS.1,fun k hk hl=> ?_⟩;rw [(Eo (w:=w4) (b:=b) 3 vk').2 k (fun e=>hk (.inl e)) (Qy hl vS.1)];exact vS.2 k (fun e=>hk (.inr e)) hl
 have qZ:Yv (Sw b g vk vc) w (w4.setCell ⟨b,3,none⟩ vk'):=⟨xN.1,fun k hk hl=>xN.2 k (fun e=>hk (e.elim .inl fun e=> .inr (.inr (.inl e)))) hl⟩;have hx:∀k,k < w.heap.size->Sw b g vk' vc k->Sw b g vk vc k:=fun k hl e=>by
  rcases e with e|e|e|e
  ·exact .inl e
  ·exact .inr (.inl e)
  ·rcases ho with ho|ho
   ·exact .inr (.inr (.inl (ho▸e)))
   rw [ho]at e;injection e with e;omega
  exact .inr (.inr (.inr e))
 have xL:=h.blt;have wR:∀k,vk.ownBlock=some k->w1.heap.size<=k:=fun k hk=>by
  obtain⟨_,_,h1,_⟩:=h.kn;exact(h1.lt k hk).1
 have xK:=h.al.lt;refine⟨?_,h.lo,?_,Zp h.al fun k hk=> ?_,?_,?_,?_,h.dc,fun k hk wV=> ?_⟩
 ·exact Qgs ((h.ext.alloc c).grown hg wR) h.lo.1 3 vk'
 ·obtain⟨vb,vr,hb,h1,h2⟩:=h.cells;have TP:w4.heap[b]?=_:=(vS.2 b (fun e=>h.dk.1 e) xL).trans hb;exact⟨vb,vr,(Qzx TP).2.1,h1,h2.next qZ hx⟩
 ·have e:k=g:=by injection hk with hk;exact hk.symm
  subst e;exact xN.2 k (fun e=>e.elim (fun e=>h.lo.2 e.symm) (fun e=>h.dk.2 e)) xK.2
 ·refine⟨rs++ [(n,vh)],by rw [List.map_append,lA];rfl,?_,fun r hr=> ?_⟩
  ·rw [List.length_append,List.length_singleton,List.flatMap_append,List.flatMap_singleton];refine Zp zR fun k hk=>(Eo (w:=w4) (b:=b) 3 vk').2 k (fun e=> ?_) (zR.lt k hk).2
   subst e;rcases ho with ho|ho
   ·exact h.dk.1 (ho▸hk)
   rw [ho]at hk;injection hk with hk;omega
  rcases List.mem_append.1 hr with hr|hr
  ·exact(uX r hr).next qZ hx
  rw [List.mem_singleton.1 hr];exact hh.next qZ hx
 ·obtain⟨ss,e,h1,h2⟩:=h.cm;exact⟨ss,e,Zp h1 fun k hk=>xN.2 k (fun e=>e.elim (fun e=>h.dc.1 (e▸hk)) (fun e=>h.dd k e hk)) (h1.lt k hk).2,fun r hr=>⟨(h2 r hr).1.next qZ hx,(h2 r hr).2.next qZ hx⟩⟩
 ·rcases ho with ho|ho
  ·rw [ho];exact h.dk
  rw [ho];exact⟨fun e=>by injection e with e;omega,fun e=>by injection e with e;omega⟩
 rcases ho with ho|ho
 ·exact h.dd k (ho▸hk) wV
 rw [ho]at hk;injection hk with hk;obtain⟨_,_,h1,_⟩:=h.cm;have:=(h1.lt k wV).2;omega
theorem Xt.comm {w4:World} {c:Obj} {vc' vx vy:Value} {n:Cm} {rs:List (Cm×Value×Value)}(h:Xt w1 w b g lg base root ks cs alive vk vc)(lA:rs.map Prod.fst=cs)(xY:∀r∈rs,Vs (Sw b g vk vc) w (fun w'=>Kc w' r.2.1 r.1.x)/\Vs (Sw b g vk vc) w (fun w'=>Kc w' r.2.2 r.1.y))
 (hhx:Vs (Sw b g vk vc) w (fun w'=>Kc w' vx n.x))(hhy:Vs (Sw b g vk vc) w (fun w'=>Kc w' vy n.y))(zR:w4.ownsRow w1.heap.size 138 5 vc' (rs.length+1) (rs.flatMap cmV++cmV (n,vx,vy)))(hg:(w.alloc c).grownBy w4 vc.ownBlock)(ho:vc'.ownBlock=vc.ownBlock\/vc'.ownBlock=some (w.alloc c).heap.size):
 Xt w1 (w4.setCell ⟨b,4,none⟩ vc') b g lg base root ks (cs++ [n]) alive vk vc':=by
 have vS:Yv (fun x=>vc.ownBlock=some x) w w4:=(Yv.of_ext ((Qg.refl w).alloc c)).trans (Qxl hg) (fun _ _ h=>h);have mP:w.heap.size < (w.alloc c).heap.size:=by simp
 have xN:Yv (fun x=>x=b\/vc.ownBlock=some x) w (w4.setCell ⟨b,4,none⟩ vc'):=by
  refine⟨by rw [show(w4.setCell ⟨b,4,none⟩ vc').heap.size=w4.heap.size by simp [World.setCell]];exact vS.1,fun k hk hl=> ?_⟩;rw [(Eo (w:=w4) (b:=b) 4 vc').2 k (fun e=>hk (.inl e)) (Qy hl vS.1)];exact vS.2 k (fun e=>hk (.inr e)) hl
 have qZ:Yv (Sw b g vk vc) w (w4.setCell ⟨b,4,none⟩ vc'):=⟨xN.1,fun k hk hl=>xN.2 k (fun e=>hk (e.elim .inl fun e=> .inr (.inr (.inr e)))) hl⟩;have hx:∀k,k < w.heap.size->Sw b g vk vc' k->Sw b g vk vc k:=fun k hl e=>by
  rcases e with e|e|e|e
  ·exact .inl e
  ·exact .inr (.inl e)
  ·exact .inr (.inr (.inl e))
  rcases ho with ho|ho
  ·exact .inr (.inr (.inr (ho▸e)))
  rw [ho]at e;injection e with e;omega
 have xL:=h.blt;have yU:∀k,vc.ownBlock=some k->w1.heap.size<=k:=fun k hk=>by
  obtain⟨_,_,h1,_⟩:=h.cm;exact(h1.lt k hk).1
 have xK:=h.al.lt;refine⟨?_,h.lo,?_,Zp h.al fun k hk=> ?_,?_,?_,h.dk,?_,fun k hk wV=> ?_⟩
 ·exact Qgs ((h.ext.alloc c).grown hg yU) h.lo.1 4 vc'
 ·obtain⟨vb,vr,hb,h1,h2⟩:=h.cells;have TP:w4.heap[b]?=_:=(vS.2 b (fun e=>h.dc.1 e) xL).trans hb;exact⟨vb,vr,(Qzx TP).2.2,h1,h2.next qZ hx⟩
 ·have e:k=g:=by injection hk with hk;exact hk.symm
  subst e;exact xN.2 k (fun e=>e.elim (fun e=>h.lo.2 e.symm) (fun e=>h.dc.2 e)) xK.2
 ·obtain⟨ss,e,h1,h2⟩:=h.kn;exact⟨ss,e,Zp h1 fun k hk=>xN.2 k (fun e=>e.elim (fun e=>h.dk.1 (e▸hk)) (fun e=>h.dd k hk e)) (h1.lt k hk).2,fun r hr=>(h2 r hr).next qZ hx⟩
 ·refine⟨rs++ [(n,vx,vy)],by rw [List.map_append,lA];rfl,?_,fun r hr=> ?_⟩
  ·rw [List.length_append,List.length_singleton,List.flatMap_append,List.flatMap_singleton];refine Zp zR fun k hk=>(Eo (w:=w4) (b:=b) 4 vc').2 k (fun e=> ?_) (zR.lt k hk).2
   subst e;rcases ho with ho|ho
   ·exact h.dc.1 (ho▸hk)
   rw [ho]at hk;injection hk with hk;omega
  rcases List.mem_append.1 hr with hr|hr
  ·exact⟨(xY r hr).1.next qZ hx,(xY r hr).2.next qZ hx⟩
  rw [List.mem_singleton.1 hr];exact⟨hhx.next qZ hx,hhy.next qZ hx⟩
 ·rcases ho with ho|ho
  ·rw [ho];exact h.dc
  rw [ho];exact⟨fun e=>by injection e with e;omega,fun e=>by injection e with e;omega⟩
 rcases ho with ho|ho
 ·exact h.dd k hk (ho▸wV)
 rw [ho]at wV;injection wV with wV;obtain⟨_,_,h1,_⟩:=h.kn;have:=(h1.lt k hk).2;omega
theorem Xt.start(he:Qg w1 w)(wH:w1.heap.size<=b/\b≠g)(hb:w.heap[b]?=some (.cells #[.int .i64 lg,vk,.slice none 0 0,.slice none 0 0,.slice none 0 0,.slice (some ⟨g,0,none⟩) alive.length alive.length] 93 (0,0)))(hf:Dd w1 vk base)(wJ:Ks w1.heap.size w g alive):
 Xt w1 w b g lg base [] [] [] alive (.slice none 0 0) (.slice none 0 0):=
 ⟨he,wH,⟨_,_,hb,hf,fun _ _=>Qps _⟩,wJ,⟨[],rfl,World.ownsRow_nil _ _ _ _,by simp⟩,⟨[],rfl,World.ownsRow_nil _ _ _ _,by simp⟩,⟨by simp [Value.ownBlock],by simp [Value.ownBlock]⟩,⟨by simp [Value.ownBlock],by simp [Value.ownBlock]⟩,fun k hk=>by simp [Value.ownBlock]at hk⟩
theorem Xt.fresh {w0:World} {gh:Nat} {l:List Bool}(h:Xt w1 w0 b g lg base root ks cs alive vk vc)(hr:Ks w0.heap.size w gh l):Vs (Sw b g vk vc) w (fun w'=>Kc w' (.slice (some ⟨gh,0,none⟩) l.length l.length) l):=
 Vs.of_row hr fun e=>by
  have h1:=hr.lt.1;rcases e with e|e|e|e
  ·have:=h.blt;omega
  ·have:=h.al.lt.2;omega
  ·obtain⟨_,_,h2,_⟩:=h.kn;have:=(h2.lt gh e).2;omega
  obtain⟨_,_,h2,_⟩:=h.cm;have:=(h2.lt gh e).2;omega
theorem Xt.reads(h:Xt w1 w b g lg base root ks cs alive vk vc):w.cell? ⟨b,3,none⟩=some vk/\w.cell? ⟨b,4,none⟩=some vc/\w.cell? ⟨b,5,none⟩=some (.slice (some ⟨g,0,none⟩) alive.length alive.length)/\(∀j,w.frozen? ⟨b,j,none⟩=false)/\b < w.heap.size:=by
 obtain⟨_,_,hb,_⟩:=h.cells;obtain⟨⟨_,_,_,d3,d4,d5⟩,hf,hl⟩:=Vc hb;exact⟨d3,d4,d5,hf,hl⟩
theorem Xt.eng(h:Xt w1 w b g lg base root ks cs alive vk vc):Ex w b lg base root ks cs alive:=h.engX.eng
end
end Go.Proofs.YtkmclcmnoicagaaGreatDoor
