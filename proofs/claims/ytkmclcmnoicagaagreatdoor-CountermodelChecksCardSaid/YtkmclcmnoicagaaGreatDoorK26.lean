/- types' baseOf: the walk. -/
import Derived.Test.YtkmclcmnoicagaaGreatDoorK25
namespace Go.Proofs.YtkmclcmnoicagaaGreatDoor
set_option maxRecDepth 100000
set_option maxHeartbeats 128000000
open Go.RowKit
def Qf4(m:Nat)(v:Value):Prop:=∀g,v.ownBlock=some g->m<=g
theorem Qf4.next {m N:Nat} {v v':Value}(h:Qf4 m v)(hm:m<=N)(yM:v'.ownBlock=v.ownBlock\/v'.ownBlock=some N):Qf4 m v':=fun g hg=>by
 rcases yM with e|e
 ·exact h g (e▸hg)
 rw [e]at hg;injection hg with hg;omega
theorem Qoj {m B:Nat} {w W:World} {vo x:Value}(hx:∀g,x.ownBlock=some g->g < w.heap.size/\m<=g)(hB:w.heap.size<=B)(hv:Qf4 B vo)(he:w.heap.size<=W.heap.size):Cf m W vo x:=fun g hg=>by
 obtain⟨h1,h2⟩:=hx g hg;exact⟨by omega,fun e=>by have:=hv g e;omega,h2⟩
theorem Qfy {c:List Nd}(h:(Zz c).op=13)(q:Nat):Ql2 (q:Int) c=Um q c:=by
 unfold Ql2 Um Ux Dx;rw [h];rfl
theorem Qm3 {l:List (List Nd)} {k:Nat} {s:List Nd}(h:l[k]?=some s):(l.take (k+1)).filter (fun s=>Jh (Zz s))=(l.take k).filter (fun s=>Jh (Zz s))++(bif Jh (Zz s)then [s]else []):=by
 rw [Kk h,List.filter_append,List.filter_cons];cases Jh (Zz s) <;> rfl
def Qrd(wi:World)(r:List (List Nd)×Int)(e:Ending)(w':World):Prop:=∃u,e=.returned (.tuple #[u,.int .i64 r.2])/\Ext wi w'/\Vo wi w' u r.1
theorem Qs1(v:Value)(t:Tr)(w:World)(ht:Xf t)(h:Fml w v (Qn t)):
 Calls Tryz.prog 57 #[v] w (Qrd w (Kc (Qn t))):=by
 have H:=Qq h;have HT:=Qq ht;obtain⟨iI,pK,vO,vN,vM⟩:=info_parts Qx4;obtain⟨A,c,rfl,_⟩:=Qh h;obtain⟨sl,nZ⟩:∃b,b=Qjs (Qn t):=⟨_,rfl⟩;have CE:sl.length<=200:=by rw [nZ,ht.subs];simpa using ht.len
 have KQ:=Qq nZ;have oX:=Qq (show ∀s∈sl,∃u,Xf u/\s=Qn u by
  rw [nZ,ht.subs];intro s hs;obtain⟨i,hi,rfl⟩:=List.mem_map.1 hs;exact⟨_,ht.at (List.mem_range.1 hi),rfl⟩)
 clear h ht nZ;go_enter Tryz.func57,Tryz.ntmps57;go_wp2_with fail;refine(Qe5 _ (Qn t) _ H.out HT.out.check).mono ?_;rintro e w1 ⟨uc,rfl,pI⟩;rw [<-KQ.out]at pI;have jW:=Qq pI;obtain⟨As,cs,rfl,xR,yO,zM⟩:=pI.fmls;have uJ:=Qq zM;unfold maxLen at yO;have FS:=Qq pI.row;clear pI zM;go_wp2_with fail;go_loopw [4,19] (fun vo vi wr=>∃k:Nat,vi=.int .i64 (k:Int)/\k<=sl.length/\Hid (∃ol,ol=(sl.take k).filter (fun s=>Jh (Zz s))/\Vo w wr vo ol/\Ext w1 wr/\Qf4 w1.heap.size vo)) (fun _ v _=>sl.length - (intOf v).toNat)
 case atStart=>exact⟨0,rfl,Nat.zero_le _,Qq ⟨[],rfl,(Vo.nil _).before jW.out.ext,Qz,fun g hg=>by cases hg⟩⟩
 case round =>
  obtain⟨k,rfl,hk,zY⟩:=hrel;obtain⟨ol,tG,yF,hx,oE⟩:=zY.out;obtain⟨us,zP,sR⟩:=yF.row;obtain⟨Ao,co,rfl⟩:=Qs zP;have pZ:=Qq tG;have wS:=Qq yF;have yJ:=Qq zP;have jO:=Qq sR;have HX:=Qq hx;have hG:=Qq oE;have TT:ol.length<=200:=by
   rw [tG];refine Qx (List.length_filter_le _ _) ?_;rw [List.length_take];omega
  clear zY tG yF zP sR hx oE;by_cases hlt2:k < sl.length
  ·have yP:(k:Int) < (sl.length:Int):=by omega
   obtain⟨s,hs⟩:∃s,sl[k]?=some s:=⟨_,Qv hlt2⟩;obtain⟨ad,rfl,yZ,zJ⟩:=uJ.out (by intro e;rw [e]at hlt2;simp at hlt2);obtain⟨u,hu,hf⟩:=zJ k s hs;have a0:=(HX.out.cell (p:=ad.add k) (Qj yZ)).trans hu;have tQ:(ad.add k).block < wr.heap.size:=by rw [Qr];exact Qy yZ HX.out.size
   have HF:=Qq (hf.ext HX.out);have HS:=Qq hs;obtain⟨su,XK,ZX⟩:=oX.out s (List.mem_of_getElem? hs);have rA:0 < s.length:=by rw [ZX];exact Uv XK.xp.1.1
   obtain⟨Au,cu,rfl,_⟩:=Qh hf;have cE:=Qq (show ∀g,(Value.slice Au s.length cu).ownBlock=some g->g < w1.heap.size/\w.heap.size<=g by
    obtain⟨us0,dX,JO⟩:=FS.out;obtain⟨u',hu',_,YL⟩:=JO k s hs;have h0:0 < sl.length:=by omega
    obtain⟨g',cap',e',_,_,_,jM⟩:=Mv dX h0;injection e' with e1 _ _;injection e1 with e1;subst e1;have yR:=jM k u' hu';rw [show((⟨g',0,none⟩:Addr).add k)=⟨g',k,none⟩from Fr g' k]at hu;rw [yR]at hu;injection hu with hu;subst hu;exact fun g hg=>⟨(YL g hg).1,(YL g hg).2.2⟩)
   clear hs zJ hf hu XK ZX;obtain⟨wq,vD⟩:∃v,v=wr:=⟨_,rfl⟩;subst vD;go_wp2_with fail;refine(Wt _ s _ HF.out rA).mono ?_;rintro e w2 ⟨u1,u2,rfl,zS,nJ,rJ⟩;have zR:=Qq zS;obtain⟨n,hn⟩:∃n,n=Zz s:=⟨_,rfl⟩;rw [<-hn];have HN:=Qq hn;unfold Nd.val;obtain⟨A1,c1,rfl,_⟩:=Qh nJ;obtain⟨A2,c2,rfl,_⟩:=Qh rJ;clear zS nJ rJ hn;have yY:=Qq (show Ext wq (w2.alloc (.cells #[.int .i64 n.op,.int .i64 n.i,.int .i64 n.e,.int .i64 n.g,.int .i64 n.x,.int .i64 n.y] 71))from zR.out.alloc _);have wG:=Qq (Qm3 HS.out);rw [<-HN.out,<-pZ.out]at wG;rcases Qkj n with zV|⟨t3,t9,t13⟩
   ·have hb:=Qq (show Jh n=true by unfold Jh;rcases zV with e|e|e <;> rw [e] <;> rfl);have xN:ol.length+1<=maxLen:=by unfold maxLen;omega
    have xJ:(ol.length+1)*24<=140737488355328:=by omega
    have SF:=Qq (show((n.op==3)=true)\/((n.op==3)=false/\(n.op==9)=true)\/((n.op==3)=false/\(n.op==9)=false/\(n.op==13)=true) by rcases zV with e|e|e <;> rw [e] <;> simp);clear zV;rcases SF.out with t3|⟨t3,t9⟩|⟨t3,t9,t13⟩
    all_goals
     go_wp2_with(at_builtin;refine wpList_append_own_at _ rfl _ _ 32 rfl w.heap.size 22 iI (.slice none 0 0) 1 24 Tryz.underlying32 pK vO vN vM rfl (by decide) _ ol.length us rfl (Zf yJ.out (yY.out.alloc _)) ⟨_,0,none⟩ 1 1 [.slice Au s.length cu] rfl rfl (Zm _ _ _ (by simp)) (fun u hu=>by rw [List.mem_singleton.1 hu];rfl) xN xJ (Qx wS.out.ext.size (yY.out.alloc _).size) ?_);intro v7 w7 zW zX _ zF;have IU:=Qq (hG.out.next (by have:=HX.out.size;have:=yY.out.size;simp at this;omega) zF);have rS:=Qq (Ext.grown (HX.out.trans (yY.out.alloc (.cells #[.slice Au s.length cu] 22))) zX hG.out)
     have pP:=Qq (Vo.push (s:=s) ((wS.out.ext.trans yY.out).alloc _) (Zf yJ.out (yY.out.alloc _)) (fun k s hk=>by
      obtain⟨u,a,b,c⟩:=jO.out k s hk;exact⟨u,a,b.ext (yY.out.alloc _),c.ext (yY.out.alloc _)⟩) zW zX (zF.imp id (fun e=>e.trans (by simp))) (HF.out.ext (yY.out.alloc _)) (Qoj cE.out (Nat.le_refl _) hG.out (Qx HX.out.size (yY.out.alloc _).size)))
     obtain⟨A7,c7,rfl⟩:=Qs zW;clear zW zX zF;go_wp2_with fail;go_roundw
     case rel=>exact⟨k+1,by go_num,by omega,Qq ⟨_,by rw [wG.out,hb.out];rfl,pP.out,rS.out,IU.out⟩⟩
     case measure=>simp [intOf];omega
   have hb:=Qq (show Jh n=false by unfold Jh;rw [t3,t9,t13];rfl);go_wp2_with fail;go_roundw
   case rel=>exact⟨k+1,by go_num,by omega,Qq ⟨_,by rw [wG.out,hb.out];exact(List.append_nil _).symm,wS.out.ext_ yY.out,HX.out.trans yY.out,hG.out⟩⟩
   case measure=>simp [intOf];omega
  obtain rfl:sl.length=k:=by omega
  obtain⟨l0,rH⟩:∃l,l=Ye (Qn t):=⟨_,rfl⟩;have sW:=Qq rH;have PN:=Qq (show ol=l0 by rw [pZ.out,rH,List.take_of_length_le (Nat.le_refl _),KQ.out];rfl);clear rH;go_wp2_with fail;go_loopw [4,10] (fun vo vi wr=>∃k:Nat,vi=.int .i64 (k:Int)/\k<=12/\Hid (∃ol,ol=(usK l0 k).foldl Gm l0/\(∀u∈usK l0 k,u.length≠0)/\k<=ol.length/\ol.length<=216/\Vo w wr vo ol)) (fun _ v _=>13 - (intOf v).toNat)
  case atStart=>exact⟨0,rfl,Nat.zero_le _,Qq ⟨ol,PN.out,(fun u hu=>by cases hu),Nat.zero_le _,by omega,wS.out⟩⟩
  case round =>
   clear pZ wS yJ jO HX hG PN TT;obtain⟨k,rfl,hk,zY⟩:=hrel;obtain⟨ol,tG,zQ,wO,TT,yF⟩:=zY.out;have pZ:=Qq tG;have jT:=Qq zQ;have wS:=Qq yF;obtain⟨Ao,co,rfl⟩:=Qs yF.row.choose_spec.1;clear zY tG zQ yF;by_cases hlt2:k < ol.length
   ·have yP:(k:Int) < (ol.length:Int):=by omega
    by_cases h12:12 < ol.length
    ·have OM:(12:Int) < (ol.length:Int):=by omega
     have HB:=Qq (show Kc (Qn t)=([],8)from Qkz (.inr (by rw [<-sW.out];exact Qmj (k:=k) (by rw [<-pZ.out];exact h12))));go_wp2_with fail;go_ret2;exact⟨.slice none 0 0,by rw [HB.out] <;> rfl,wS.out.ext,by rw [HB.out];exact(Vo.nil _).before wS.out.ext⟩
    have OM:(ol.length:Int)<=12:=by omega
    obtain⟨s,hs⟩:∃s,ol[k]?=some s:=⟨_,Qv hlt2⟩;obtain⟨g0,cap0,nZ,wB,xP⟩:=wS.out.slice (by omega);injection nZ with hsl1 _ wA;subst hsl1 wA;unfold maxLen at xP;obtain⟨u,hu,hf,xO⟩:=wS.out.get hs;have HF:=Qq hf;have hH:=Qq (Qmy HT.out (k:=k) (ol:=ol) (c:=s) (by rw [<-sW.out];exact pZ.out) (by rw [<-sW.out];exact jT.out) hs);have HS:=Qq hs;obtain⟨su,XK,ZX⟩:=hH.out.2;have rA:0 < s.length:=by rw [ZX];exact Uv XK.xp.1.1
    have lE:=Qq (show Zh (Zz s) by
     have zT:=XK.check;rw [<-ZX]at zT;exact Ni zT _ (List.mem_of_getElem? (Ty rA)))
    obtain⟨Au,cu,rfl,_⟩:=Qh hf;clear hs hf XK ZX;obtain⟨wq,vD⟩:∃v,v=wr:=⟨_,rfl⟩;subst vD;go_wp2_with fail;refine(Wt _ s _ HF.out rA).mono ?_;rintro e w2 ⟨u1,u2,rfl,zS,nJ,rJ⟩;have zR:=Qq zS;obtain⟨n,hn⟩:∃n,n=Zz s:=⟨_,rfl⟩;rw [<-hn];have HN:=Qq hn;unfold Nd.val;obtain⟨A1,c1,rfl,_⟩:=Qh nJ;obtain⟨A2,c2,rfl,_⟩:=Qh rJ;clear zS nJ rJ hn;go_wp2_with fail;have uO:g0 < w2.heap.size:=Qy xO zR.out.size;obtain⟨W0,zE⟩:∃v,v=w2.alloc (.cells #[.int .i64 n.op,.int .i64 n.i,.int .i64 n.e,.int .i64 n.g,.int .i64 n.x,.int .i64 n.y] 71):=⟨_,rfl⟩;have WZ:=Qq (show W0.heap[w2.heap.size]?=some (.cells #[.int .i64 n.op,.int .i64 n.i,.int .i64 n.e,.int .i64 n.g,.int .i64 n.x,.int .i64 n.y] 71 (0,0)) by rw [zE];exact heap_alloc_new _ _)
    have yY:=Qq (show Ext wq W0 by rw [zE];exact zR.out.alloc _);rw [<-zE];clear zE;by_cases zV:n.op=13
    ·have jJ:=Qy5 (by rw [HN.out];exact lE.out) (.inr zV);obtain⟨gn,vY⟩:=Int.eq_ofNat_of_zero_le jJ.1;have UK:gn < 16:=by omega
     have mZ:=Qq vY;have eV:(n.op !=13)=false:=by rw [zV];rfl
     have xU:=Qq (show(Zz s).op=13 by rw [<-HN.out];exact zV);rw [vY]at WZ;clear jJ vY zV;go_loopw [4,65] (fun vo vi wr=>∃q:Nat,vi=.int .i64 (q:Int)/\q<=4/\Hid (∃ol2,ol2=(St s q).foldl Gm ol/\(∀u∈St s q,u.length≠0)/\ol2.length<=ol.length+q/\Vo w wr vo ol2/\Ext w wr/\wr.heap[w2.heap.size]?=some (.cells #[.int .i64 n.op,.int .i64 n.i,.int .i64 n.e,.int .i64 (gn:Int),.int .i64 n.x,.int .i64 n.y] 71 (0,0))/\vo.ownBlock≠some w2.heap.size)) (fun _ v _=>4 - (intOf v).toNat)
     case atStart=>exact⟨0,rfl,Nat.zero_le _,Qq ⟨ol,by rw [Qfj];rfl,(by intro u hu;rw [Qfj]at hu;cases hu),Nat.le_refl _,wS.out.ext_ yY.out,wS.out.ext.trans yY.out,WZ.out,(fun e=>by injection e with e;simp at e;omega)⟩⟩
     case round =>
      obtain⟨q,rfl,hq,YQ⟩:=hrel;obtain⟨ol2,eB,iF,MR,UN,dM,eT,MH⟩:=YQ.out;obtain⟨us2,sT,dO⟩:=UN.row;have WF:=Qq eB;have WI:=Qq iF;have wI:=Qq UN;have wH:=Qq sT;have VP:=Qq dO;have gD:=Qq eT;have fP:=Qq MH;have AA:=Qq (show ol <+: ol2 by rw [eB];exact Ri _ _);have yK:k < ol2.length:=Qy hlt2 AA.out.length_le;have xE:=Qq (show ol2[k]?=some s by
       obtain⟨r,hr⟩:=AA.out;rw [<-hr,List.getElem?_append_left hlt2];exact HS.out)
      obtain⟨g2,cap2,wA,kM,tE⟩:=wI.out.slice (by omega);subst wA;unfold maxLen at tE;obtain⟨uu,huu,oF,tH⟩:=wI.out.get xE.out;have IV:=Qq oF;obtain⟨Au2,cu2,rfl,_⟩:=Qh oF;obtain⟨⟨q0,q1,q2,q3,q4,q5⟩,_,qb⟩:=Vm eT;clear YQ eB iF UN sT dO eT MH oF dM;have nH:(k:Int) < (ol2.length:Int):=by omega
      by_cases RM:q < 4
      ·have RN:(q:Int) < 4:=by omega
       have tP:=Wr gn q (by omega);cases uE:gn.testBit q
       case false =>
        rw [uE]at tP;simp only [Bool.not_false]at tP;have HQ:=Qq (Zqf (c:=s) (q:=q) (by rw [<-HN.out,mZ.out,show Vy (gn:Int) q=false from uE,Bool.and_false]));clear uE;go_wp2_with fail;go_roundw
        case rel=>exact⟨q+1,by go_num,by omega,Qq ⟨ol2,by rw [HQ.out];exact WF.out,by rw [HQ.out];exact WI.out,by omega,wI.out,wI.out.ext,gD.out,fP.out⟩⟩
        case measure=>simp [intOf];omega
       case true =>
        rw [uE]at tP;simp only [Bool.not_true]at tP;have HQ:=Qq (Qwy (c:=s) (q:=q) (by rw [xU.out];rfl) (by rw [<-HN.out,mZ.out];exact uE));have J2:=Qq (Qfy xU.out q);clear uE;go_wp2_with fail;refine(Qzc (q:Int) ⟨by omega,by omega⟩ _ s _ IV.out rA).mono ?_;rintro e w3 ⟨u3,rfl,jG⟩;rw [J2.out]at jG;have mX:=Qq jG;obtain⟨A3,c3,rfl,_⟩:=Qh jG.fml;clear jG;by_cases hz:(Um q s).length=0
        ·have sJ:(((Um q s).length:Int)==0)=true:=by rw [hz];rfl
         have HB:=Qq (show Kc (Qn t)=([],8)from Qkz (.inl (by
          rw [<-sW.out];refine Qhw (k:=k+1) (u:=Um q s) ?_ hz;rw [sW.out,hH.out.1];refine List.mem_append_right _ (Qwj (q:=q+1) (by omega) ?_);rw [HQ.out]
          simp)))
         generalize (Um q s).length=m8 at hz sJ;clear hz;go_wp2_with fail;go_ret2;exact⟨.slice none 0 0,by rw [HB.out] <;> rfl,wI.out.ext.trans mX.out.ext,by rw [HB.out];exact(Vo.nil _).before (wI.out.ext.trans mX.out.ext)⟩
        have sJ:(((Um q s).length:Int)==0)=false:=by rw [beq_eq_false_iff_ne];omega
        have HZ:=Qq hz;have PQ:=Qq (show ∀u∈St s (q+1),u.length≠0 by
         rw [HQ.out];intro u hu;rcases List.mem_append.1 hu with hu|hu
         ·exact WI.out u hu
         rw [List.mem_singleton.1 hu];exact hz)
        have WE:=Qq (show Gm ol2 (Um q s)=(St s (q+1)).foldl Gm ol by rw [HQ.out,List.foldl_append,<-WF.out];rfl);clear hz;generalize Um q s=g8 at mX sJ WE;go_wp2_with fail;refine(Qq0 _ _ ol2 g8 _ (wI.out.fmls.ext mX.out.ext) mX.out.fml).mono ?_;rintro e w4 ⟨rfl,yD⟩;have yI:=Qq (mX.out.ext.trans yD);have OS:=Qq yD;clear yD;by_cases hp:Yn ol2 g8 < 0
        ·have gI:=Qq (show Gm ol2 g8=ol2++ [g8] by unfold Gm;rw [decide_eq_true hp];rfl);generalize Yn ol2 g8=pz at hp;have xN:ol2.length+1<=maxLen:=by unfold maxLen;omega
         have xJ:(ol2.length+1)*24<=140737488355328:=by omega
         go_wp2_with(at_builtin;refine wpList_append_own_at _ rfl _ _ 32 rfl w.heap.size 22 iI (.slice none 0 0) 1 24 Tryz.underlying32 pK vO vN vM rfl (by decide) _ ol2.length us2 rfl (Zf wH.out (yI.out.alloc _)) ⟨_,0,none⟩ 1 1 [.slice A3 g8.length c3] rfl rfl (Zm _ _ _ (by simp)) (fun u hu=>by rw [List.mem_singleton.1 hu];rfl) xN xJ (Qx wI.out.ext.size (yI.out.alloc _).size) ?_);intro v7 w7 zW zX _ zF;have QW:=Qq (show w7.heap[w2.heap.size]?=some (.cells #[.int .i64 n.op,.int .i64 n.i,.int .i64 n.e,.int .i64 (gn:Int),.int .i64 n.x,.int .i64 n.y] 71 (0,0))from(zX.block _ (Qy qb (yI.out.alloc _).size) (fun e=>fP.out e.symm)).trans (((yI.out.alloc _).block qb).trans gD.out))
         have GW:=Qq (show v7.ownBlock≠some w2.heap.size from fun e=>by
          rcases zF with e1|e1
          ·exact fP.out (e1▸e)
          rw [e1]at e;injection e with e;have:=(yI.out).size;omega)
         have pP:=Qq (Vo.push (s:=g8) ((wI.out.ext.trans yI.out).alloc _) (Zf wH.out (yI.out.alloc _)) (fun k s hk=>by
          obtain⟨u,a,b,c⟩:=VP.out k s hk;exact⟨u,a,b.ext (yI.out.alloc _),c.ext (yI.out.alloc _)⟩) zW zX (zF.imp id (fun e=>e.trans (by simp))) (mX.out.fml.ext (OS.out.alloc _)) (Tv (Nat.le_refl _) (Zf mX.out.1 (OS.out.alloc _)) wH.out wI.out.ext.size))
         obtain⟨A7,c7,rfl⟩:=Qs zW;clear zW zX zF;go_wp2_with fail;go_roundw
         case rel=>exact⟨q+1,by go_num,by omega,Qq ⟨_,by rw [<-WE.out,gI.out],PQ.out,by rw [List.length_append,List.length_singleton];omega,pP.out,pP.out.ext,QW.out,GW.out⟩⟩
         case measure=>simp [intOf];omega
        have gI:=Qq (show Gm ol2 g8=ol2 by unfold Gm;rw [decide_eq_false hp];rfl);generalize Yn ol2 g8=pz at hp;go_wp2_with fail;go_roundw
        case rel=>exact⟨q+1,by go_num,by omega,Qq ⟨ol2,by rw [<-WE.out,gI.out],PQ.out,by omega,wI.out.ext_ yI.out,wI.out.ext.trans yI.out,(yI.out.block qb).trans gD.out,fP.out⟩⟩
        case measure=>simp [intOf];omega
      obtain rfl:4=q:=by omega
      go_wp2_with fail;go_roundw
      case rel=>exact⟨k+1,by go_num,by omega,Qq ⟨ol2,by rw [sW.out,hH.out.1,List.foldl_append,<-sW.out,<-pZ.out,<-Qzp];exact WF.out,(by
       rw [sW.out,hH.out.1];intro u hu;rcases List.mem_append.1 hu with hu|hu
       ·exact jT.out u (by rw [sW.out];exact hu)
       exact WI.out u (by rw [Qzp];exact hu)),by omega,by omega,wI.out⟩⟩
      case measure=>simp [intOf];omega
    have eV:(n.op !=13)=true:=by simpa using zV
    have Z3:=Qq (show Vw s= [] by unfold Vw;rw [<-HN.out,show(n.op==13)=false by simpa using zV];rfl);obtain⟨⟨q0,q1,q2,q3,q4,q5⟩,_,qb⟩:=Vm WZ.out;clear zV;go_loopw [4,65] (fun vo vi wr=>∃q:Nat,vi=.int .i64 (q:Int)/\q<=4/\vo=.slice (some ⟨g0,0,none⟩) ol.length co/\wr=W0) (fun _ v _=>4 - (intOf v).toNat)
    case atStart=>exact⟨0,rfl,Nat.zero_le _,rfl,rfl⟩
    case round =>
     obtain⟨q,rfl,hq,rfl,rfl⟩:=hrel;by_cases RM:q < 4
     ·have RN:(q:Int) < 4:=by omega
      go_wp2_with fail;go_roundw
      case rel=>exact⟨q+1,by go_num,by omega,by first|rfl|trivial,by first|rfl|trivial⟩
      case measure=>simp [intOf];omega
     obtain rfl:4=q:=by omega
     go_wp2_with fail;go_roundw
     case rel=>exact⟨k+1,by go_num,by omega,Qq ⟨ol,by rw [sW.out,hH.out.1,Z3.out,List.append_nil,<-sW.out];exact pZ.out,(by
      rw [sW.out,hH.out.1,Z3.out,List.append_nil,<-sW.out];exact jT.out),by omega,by omega,wS.out.ext_ yY.out⟩⟩
     case measure=>simp [intOf];omega
   obtain rfl:ol.length=k:=by omega
   have HB:=Qq (show Kc (Qn t)=(ol,0) by
    have hl:l0.length<=ol.length:=by rw [pZ.out];exact Qb3 _ _
    have sR:=Zqs (l0:=l0) (k:=ol.length) hl;have h1:=pZ.out;rw [sR]at h1;rw [Qnr,<-sW.out,<-h1]
    ·rw [<-sW.out,<-sR];exact jT.out
    rw [<-sW.out,<-h1];exact hk)
   have OM:(ol.length:Int)<=12:=by omega
   go_wp2_with fail;go_ret2;exact⟨_,by rw [HB.out] <;> rfl,wS.out.ext,by rw [HB.out];exact wS.out⟩
theorem Qir:(List.range 512).all (fun m=>(bits .andNot .i64 (m:Int) 11 !=0)==((m&&&500) !=0))=true:=by kernel_rfl
theorem Qpa(f:List Nd):(bits .andNot .i64 (Jm f:Nat) 11 !=0)=Dc f:=by
 have h:=List.all_eq_true.1 Qir (Jm f) (List.mem_range.2 (Mj _));exact eq_of_beq h
theorem Qbg(v:Value)(f:List Nd)(w:World)(h:Fml w v f):
 Calls Tryz.prog 18 #[v] w (Qrd w (Qm f)):=by
 have H:=Qq h;obtain⟨A,c,rfl,_⟩:=Qh h;clear h;by_cases hc:check f≠0
 ·have yT:(check f !=0)=true:=by simpa using hc
  have HB:=Qq (show Qm f=([],check f) by unfold Qm;rw [yT];rfl);clear hc;go_enter Tryz.func18,Tryz.ntmps18;go_wp2_with fail;refine(Vh _ f _ H.out.1).mono ?_;rintro e w1 ⟨rfl,hb⟩;have HX:=Qq hb;clear hb;go_wp2_with fail;go_ret2;exact⟨.slice none 0 0,by rw [HB.out] <;> rfl,HX.out,by rw [HB.out];exact(Vo.nil _).before HX.out⟩
 have hc:check f=0:=Classical.not_not.1 hc;have yT:(check f !=0)=false:=by simpa using hc
 have wN:((check f==0))=true:=by simpa using hc
 have HC:=Qq hc;clear hc;have zG:=Qpa f;cases hl:Dc f
 case true =>
  rw [hl]at zG;have HB:=Qq (show Qm f=([],10) by unfold Qm;rw [yT,hl];rfl);clear hl;go_enter Tryz.func18,Tryz.ntmps18;go_wp2_with fail;refine(Vh _ f _ H.out.1).mono ?_;rintro e w1 ⟨rfl,hb⟩;have HX:=Qq hb;clear hb;go_wp2_with fail;refine(Na _ f _ (H.out.ext HX.out)).mono ?_;rintro e w2 ⟨rfl,hb⟩;have zR:=Qq (HX.out.trans hb);clear hb;go_wp2_with fail;go_ret2;exact⟨.slice none 0 0,by rw [HB.out] <;> rfl,zR.out,by rw [HB.out];exact(Vo.nil _).before zR.out⟩
 case false =>
  rw [hl]at zG;have HL:=Qq hl;clear hl;by_cases hz:(Jo f).length=0
  ·have HB:=Qq (show Qm f=([],8) by unfold Qm;rw [yT,HL.out,decide_eq_true hz];rfl);have sJ:(((Jo f).length:Int)==0)=true:=by rw [hz];rfl
   clear hz;go_enter Tryz.func18,Tryz.ntmps18;go_wp2_with fail;refine(Vh _ f _ H.out.1).mono ?_;rintro e w1 ⟨rfl,hb⟩;have HX:=Qq hb;clear hb;go_wp2_with fail;refine(Na _ f _ (H.out.ext HX.out)).mono ?_;rintro e w2 ⟨rfl,hb⟩;have zR:=Qq (HX.out.trans hb);clear hb;go_wp2_with fail;refine(Ok _ f _ (H.out.ext zR.out) HC.out (Cc HC.out HL.out)).mono ?_;rintro e w3 ⟨u,rfl,hf,hb⟩;have HF:=Qq hf;have zC:=Qq (zR.out.trans hb);obtain⟨A3,c3,rfl,_⟩:=Qh hf;clear hb hf;go_wp2_with fail;go_ret2;exact⟨.slice none 0 0,by rw [HB.out] <;> rfl,zC.out,by rw [HB.out];exact(Vo.nil _).before zC.out⟩
  have sJ:(((Jo f).length:Int)==0)=false:=by rw [beq_eq_false_iff_ne];omega
  have HB:=Qq (show Qm f=Kc (Jo f) by unfold Qm;rw [yT,HL.out,decide_eq_false hz];rfl);have HT:=Qq (Qyq HC.out HL.out hz);clear hz;go_enter Tryz.func18,Tryz.ntmps18;go_wp2_with fail;refine(Vh _ f _ H.out.1).mono ?_;rintro e w1 ⟨rfl,hb⟩;have HX:=Qq hb;clear hb;go_wp2_with fail;refine(Na _ f _ (H.out.ext HX.out)).mono ?_;rintro e w2 ⟨rfl,hb⟩;have zR:=Qq (HX.out.trans hb);clear hb;go_wp2_with fail;refine(Ok _ f _ (H.out.ext zR.out) HC.out (Cc HC.out HL.out)).mono ?_;rintro e w3 ⟨u,rfl,hf,hb⟩;have HF:=Qq hf;have zC:=Qq (zR.out.trans hb);obtain⟨A3,c3,rfl,_⟩:=Qh hf
  clear hb hf;go_wp2_with fail;refine(Qs1 _ _ _ HT.out.1 (by rw [<-HT.out.2];exact HF.out)).mono ?_;rintro e w4 ⟨u4,rfl,yD,uC⟩;have yI:=Qq (zC.out.trans yD);have KS:=Qq (uC.before zC.out);rw [<-HT.out.2,<-HB.out]at KS⊢;clear yD uC;go_wp2_with fail;go_ret2;exact⟨_,rfl,yI.out,KS.out⟩
structure Fe (w:World) (b g:Nat) (lg:Int) (base:List (List Nd)) (root:List Bool) (ks:List Kn) (cs:List Cm) (alive:List Bool):Prop where
 keep:∀w':World,w.heap.size<=w'.heap.size->(∀k,k≠g->k < w.heap.size->w'.heap[k]?=w.heap[k]?)->∃vb vr vk vc,w'.heap[b]?=some (.cells #[.int .i64 lg,vb,vr,vk,vc,.slice (some ⟨g,0,none⟩) alive.length alive.length] 93 (0,0))/\Bp w' vb base/\Kl w' vr root/\Kns w' vk ks/\Cms w' vc cs
 row:Kg g w g alive
section
variable {w w':World} {b g:Nat} {lg:Int} {base:List (List Nd)} {root:List Bool} {ks:List Kn} {cs:List Cm} {alive:List Bool}
theorem Fe.eng(h:Fe w b g lg base root ks cs alive):Eng w b lg base root ks cs alive:=by
 obtain⟨vb,vr,vk,vc,h0,h1,h2,h3,h4⟩:=h.keep w (Nat.le_refl _) (fun _ _ _=>rfl);exact⟨vb,vr,vk,vc,_,h0,h1,h2,h3,h4,h.row.bools⟩
theorem Fe.ext(h:Fe w b g lg base root ks cs alive)(he:Ext w w'):Fe w' b g lg base root ks cs alive :=
 ⟨fun w2 h1 h2=>h.keep w2 (Qx he.size h1) (fun k hk hl=>(h2 k hk (Qy hl he.size)).trans (he.block hl)),h.row.ext he⟩
theorem Fe.set(h:Fe w b g lg base root ks cs alive)(j:Nat)(x:Bool):Fe (w.setCell ⟨g,j,none⟩ (.bool x)) b g lg base root ks cs (alive.set j x):=by
 refine⟨fun w2 h1 h2=> ?_,(h.row.set j x).1⟩;rw [List.length_set];have e:(w.setCell ⟨g,j,none⟩ (.bool x)).heap.size=w.heap.size:=by simp [World.setCell]
 rw [e]at h1 h2;exact h.keep w2 h1 (fun k hk hl=>(h2 k hk hl).trans (Below.heap_setCell _ _ _ _ hk))
theorem Fe.grown {r:Option Nat}(h:Fe w b g lg base root ks cs alive)(hg:w.grownBy w' r)(hr:∀k,r=some k->w.heap.size<=k):Fe w' b g lg base root ks cs alive :=
 h.ext ((Ext.refl w).grown hg hr)
theorem Fe.cells(h:Fe w b g lg base root ks cs alive):∃Ab cb Ar cr,w.cell? ⟨b,0,none⟩=some (.int .i64 lg)/\w.cell? ⟨b,1,none⟩=some (.slice Ab base.length cb)/\w.cell? ⟨b,2,none⟩=some (.slice Ar root.length cr)/\w.cell? ⟨b,5,none⟩=some (.slice (some ⟨g,0,none⟩) alive.length alive.length)/\b < w.heap.size:=by
 obtain⟨vb,vr,vk,vc,h0,⟨Ab,cb,rfl,_⟩,⟨Ar,cr,rfl,_⟩,_,_⟩:=h.keep w (Nat.le_refl _) (fun _ _ _=>rfl);obtain⟨⟨d0,d1,d2,d3,d4,d5⟩,_,hl⟩:=Vm h0;exact⟨Ab,cb,Ar,cr,d0,d1,d2,d5,hl⟩
end
theorem Zq1 {lg:Int} {ks:List Kn} {cs:List Cm} {m:Nat} {al:List Bool} {t:Nat} {i:Int}(h0: -4<=i)(h1:i < m)(h:Vb lg ks cs al t i=true)(hn:∀j:Int,-4<=j->j < i->Vb lg ks cs al t j=false):Sm lg ks cs m al t=some i:=by
 unfold Sm;rw [List.find?_map];have e:(List.range (m+4)).find? ((fun i=>Vb lg ks cs al t i) ∘ fun(j:Nat)=>(j:Int) - 4)=some (i+4).toNat:=by
  rw [List.find?_range_eq_some];refine⟨?_,List.mem_range.2 (by omega),fun j hj=> ?_⟩
  ·show Vb lg ks cs al t (((i+4).toNat:Nat) - 4:Int)=true;rw [show(((i+4).toNat:Nat) - 4:Int)=i by omega];exact h
  show(!Vb lg ks cs al t ((j:Int) - 4))=true;rw [hn _ (by omega) (by omega)];rfl
 rw [e];show some ((((i+4).toNat:Nat):Int) - 4)=some i
 congr 1
 omega
theorem Qwf {lg:Int} {ks:List Kn} {cs:List Cm} {m:Nat} {al:List Bool} {t:Nat}(hn:∀j:Int,-4<=j->j < m->Vb lg ks cs al t j=false):Sm lg ks cs m al t=none:=by
 unfold Sm;rw [List.find?_eq_none];intro i hi;obtain⟨j,hj,rfl⟩:=List.mem_map.1 hi;have:=List.mem_range.1 hj;rw [hn _ (by omega) (by omega)];simp
theorem Qcc {why:List Bool->Nat->Option Int}(k:Nat)(s:List Bool×List (Nat×Int)):Ko why (List.range (k+1)) s=Uy why (Ko why (List.range k) s) k:=by
 rw [List.range_succ,Qyx];rfl
def Qvo(l:List Nat):List Value:=l.map fun(u:Nat)=>Value.int .u64 (u:Int)
def Qy9(l:List Int):List Value:=l.map fun(u:Int)=>Value.int .i64 u
def Yp(X:Nat->Prop)(w w':World):Prop:=w.heap.size<=w'.heap.size/\∀k,¬X k->k < w.heap.size->w'.heap[k]?=w.heap[k]?
def Frz(X:Nat->Prop)(w:World)(P:World->Prop):Prop:=∀w',Yp X w w'->P w'
section
variable {X X':Nat->Prop} {w w':World} {P:World->Prop}
theorem Yp.of_ext(h:Ext w w'):Yp X w w':=⟨h.size,fun _ _ hk=>h.block hk⟩
theorem Yp.trans {w2:World}(h:Yp X w w')(h2:Yp X' w' w2)(hx:∀k,k < w.heap.size->X' k->X k):Yp X w w2 :=
 ⟨Qx h.1 h2.1,fun k hk hl=>(h2.2 k (fun e=>hk (hx k hl e)) (Qy hl h.1)).trans (h.2 k hk hl)⟩
theorem Frz.next(h:Frz X w P)(hs:Yp X w w')(hx:∀k,k < w.heap.size->X' k->X k):Frz X' w' P:=fun w2 h2=>h w2 (hs.trans h2 hx)
theorem Frz.here(h:Frz X w P):P w:=h w ⟨Nat.le_refl _,fun _ _ _=>rfl⟩
theorem Frz.of_row {base g:Nat} {l:List Bool}(h:Kg base w g l)(hg:¬X g):Frz X w fun w'=>Kl w' (.slice (some ⟨g,0,none⟩) l.length l.length) l:=fun w2 h2=>by
 have:Kg base w2 g l:=Zp h fun k hk=>by
  have e:k=g:=by injection hk with hk;exact hk.symm
  subst e;exact h2.2 k hg h.lt.2
 exact this.bools
theorem Qmf(w:World):Kl w (.slice none 0 0) []:=⟨none,0,rfl,Nat.le_refl _,by unfold maxLen;omega,fun h=>absurd rfl h⟩
theorem Qgg {α:Type} {f:α->List Value} {c:Nat}(hf:∀a,(f a).length=c):∀(l:List α) (k:Nat) (n:α) (j:Nat),l[k]?=some n->j < c->(l.flatMap f)[k*c+j]?=(f n)[j]?
 |[],k,n,j,h,_=>by simp at h
 |m :: r,0,n,j,h,hj=>by
  simp only [List.getElem?_cons_zero,Option.some.injEq]at h;subst h;rw [List.flatMap_cons,List.getElem?_append_left (by rw [hf];omega)];simp
 |m :: r,k+1,n,j,h,hj=>by
  rw [List.flatMap_cons,List.getElem?_append_right (by rw [hf,Nat.add_mul];omega)];have e:(k+1)*c+j - (f m).length=k*c+j:=by rw [hf,Nat.add_mul];omega
  rw [e];exact Qgg hf r k n j (by simpa using h) hj
theorem Qg1 {α:Type} {f:α->List Value} {c base:Nat} {e:TypeId} {v:Value} {l:List α}(hf:∀a,(f a).length=c)(h:w.ownsRow base e c v l.length (l.flatMap f)):
 ∃A cap,v=.slice A l.length cap/\l.length<=cap/\cap<=maxLen/\(l≠ []->∃g,A=some ⟨g,0,none⟩/\g < w.heap.size/\∀k n,l[k]?=some n->∀j,j < c->∀u,(f n)[j]?=some u->w.cell? ⟨g,k*c+j,none⟩=some u):=by
 obtain⟨_,h2⟩:=h;rcases h2 with⟨rfl,h0⟩|⟨g,cap,cur,rfl,hb,hg,hn,xR,pC,lS⟩
 ·have:l= []:=List.length_eq_zero_iff.1 h0;subst this;exact⟨none,0,rfl,Nat.le_refl _,by unfold maxLen;omega,fun h=>absurd rfl h⟩
 refine⟨some ⟨g,0,none⟩,cap,rfl,hn,xR,fun zQ=>⟨g,rfl,Qf hg,fun k n hk j hj u hu=> ?_⟩⟩;have h1:=Qgg hf l k n j hk hj;rw [<-lS,hu]at h1;have h2:cur[k*c+j]?=some u:=by
  rw [List.getElem?_take]at h1
  split at h1
  ·simpa using h1
  cases h1
 simp [World.cell?,hg,h2]
end
def knV(r:Kn×Value):List Value:= [.int .i64 r.1.agent,.int .i64 (r.1.place:Int),r.2]
def cmV(r:Cm×Value×Value):List Value:= [.int .i64 (r.1.place:Int),.int .i64 r.1.group,r.2.1,r.2.2,.int .u64 (r.1.parts:Int)]
section
variable {w w':World} {base:Nat} {v:Value}
theorem Qt5 {rs:List (Kn×Value)}(h:w.ownsRow base 136 3 v rs.length (rs.flatMap knV))(hb:∀r∈rs,Kl w r.2 r.1.holds):Kns w v (rs.map Prod.fst):=by
 obtain⟨A,cap,rfl,h1,h2,h3⟩:=Qg1 (f:=knV) (c:=3) (fun _=>rfl) h;refine⟨A,cap,by rw [List.length_map],by rw [List.length_map];exact h1,h2,fun hn=> ?_⟩;obtain⟨g,rfl,hg,hc⟩:=h3 (fun e=>hn (by rw [e];rfl));refine⟨_,rfl,hg,fun k n hk=> ?_⟩;rw [List.getElem?_map]at hk;cases hr:rs[k]? with
 |none=>rw [hr]at hk;cases hk
 |some r =>
  rw [hr]at hk;obtain rfl:r.1=n:=by simpa using hk
  have e0:((⟨g,0,none⟩:Addr).add (k*3))=⟨g,k*3,none⟩:=by
   unfold Addr.add
   split
   ·rename_i h;rw [h]
   simp
  rw [e0];exact⟨r.2,hc k r hr 0 (by omega) _ rfl,hc k r hr 1 (by omega) _ rfl,hc k r hr 2 (by omega) _ rfl,hb r (List.mem_of_getElem? hr)⟩
theorem Qtz {rs:List (Cm×Value×Value)}(h:w.ownsRow base 138 5 v rs.length (rs.flatMap cmV))(hb:∀r∈rs,Kl w r.2.1 r.1.x/\Kl w r.2.2 r.1.y):Cms w v (rs.map Prod.fst):=by
 obtain⟨A,cap,rfl,h1,h2,h3⟩:=Qg1 (f:=cmV) (c:=5) (fun _=>rfl) h;refine⟨A,cap,by rw [List.length_map],by rw [List.length_map];exact h1,h2,fun hn=> ?_⟩;obtain⟨g,rfl,hg,hc⟩:=h3 (fun e=>hn (by rw [e];rfl));refine⟨_,rfl,hg,fun k n hk=> ?_⟩;rw [List.getElem?_map]at hk;cases hr:rs[k]? with
 |none=>rw [hr]at hk;cases hk
 |some r =>
  rw [hr]at hk;obtain rfl:r.1=n:=by simpa using hk
  have e0:((⟨g,0,none⟩:Addr).add (k*5))=⟨g,k*5,none⟩:=by
   unfold Addr.add
   split
   ·rename_i h;rw [h]
   simp
  rw [e0];have hm:=hb r (List.mem_of_getElem? hr);exact⟨r.2.1,r.2.2,hc k r hr 0 (by omega) _ rfl,hc k r hr 1 (by omega) _ rfl,hc k r hr 2 (by omega) _ rfl,hc k r hr 3 (by omega) _ rfl,hc k r hr 4 (by omega) _ rfl,hm.1,hm.2⟩
end
def spc(b g:Nat)(vk vc:Value)(k:Nat):Prop:=k=b\/k=g\/vk.ownBlock=some k\/vc.ownBlock=some k
structure Xd (w1 w:World) (b g:Nat) (lg:Int) (base:List (List Nd)) (root:List Bool) (ks:List Kn) (cs:List Cm) (alive:List Bool) (vk vc:Value):Prop where
 ext:Ext w1 w
 lo:w1.heap.size<=b/\b≠g
 cells:∃vb vr,w.heap[b]?=some (.cells #[.int .i64 lg,vb,vr,vk,vc,.slice (some ⟨g,0,none⟩) alive.length alive.length] 93 (0,0))/\Bp w1 vb base/\Frz (spc b g vk vc) w (fun w'=>Kl w' vr root)
 al:Kg w1.heap.size w g alive
 kn:∃rs:List (Kn×Value),rs.map Prod.fst=ks/\w.ownsRow w1.heap.size 136 3 vk rs.length (rs.flatMap knV)/\∀r∈rs,Frz (spc b g vk vc) w (fun w'=>Kl w' r.2 r.1.holds)
 cm:∃rs:List (Cm×Value×Value),rs.map Prod.fst=cs/\w.ownsRow w1.heap.size 138 5 vc rs.length (rs.flatMap cmV)/\∀r∈rs,Frz (spc b g vk vc) w (fun w'=>Kl w' r.2.1 r.1.x)/\Frz (spc b g vk vc) w (fun w'=>Kl w' r.2.2 r.1.y)
 dk:vk.ownBlock≠some b/\vk.ownBlock≠some g
 dc:vc.ownBlock≠some b/\vc.ownBlock≠some g
 dd:∀k,vk.ownBlock=some k->vc.ownBlock≠some k
section
variable {w1 w w':World} {b g:Nat} {lg:Int} {base:List (List Nd)} {root:List Bool} {ks:List Kn} {cs:List Cm} {alive:List Bool} {vk vc:Value}
theorem Xd.blt(h:Xd w1 w b g lg base root ks cs alive vk vc):b < w.heap.size:=by
 obtain⟨_,_,hb,_⟩:=h.cells;exact Qf hb
theorem Xd.next(h:Xd w1 w b g lg base root ks cs alive vk vc)(he:Ext w w'):Xd w1 w' b g lg base root ks cs alive vk vc:=by
 refine⟨h.ext.trans he,h.lo,?_,h.al.ext he,?_,?_,h.dk,h.dc,h.dd⟩
 ·obtain⟨vb,vr,hb,h1,h2⟩:=h.cells;exact⟨vb,vr,(he.block (Qf hb)).trans hb,h1,h2.next (Yp.of_ext he) fun _ _ h=>h⟩
 ·obtain⟨rs,e,h1,h2⟩:=h.kn;exact⟨rs,e,Zf h1 he,fun r hr=>(h2 r hr).next (Yp.of_ext he) fun _ _ h=>h⟩
 obtain⟨rs,e,h1,h2⟩:=h.cm;exact⟨rs,e,Zf h1 he,fun r hr=>⟨(h2 r hr).1.next (Yp.of_ext he) fun _ _ h=>h,(h2 r hr).2.next (Yp.of_ext he) fun _ _ h=>h⟩⟩
theorem Qew {e:TypeId} {size n c m:Nat} {bs:Nat} {xs:List Value}(h:w.ownsRow bs e size (.slice (some ⟨g,0,none⟩) n c) m xs):w.ownsRow g e size (.slice (some ⟨g,0,none⟩) n c) m xs:=by
 obtain⟨h1,h2⟩:=h;refine⟨h1,?_⟩;rcases h2 with h2|⟨g',cap,cur,e,h3,h4⟩
 ·exact .inl h2
 have hg:g'=g:=by
  injection e with e;injection e with e;injection e with e;exact e.symm
 exact .inr ⟨g',cap,cur,e,by omega,h4⟩
theorem Xd.engX(h:Xd w1 w b g lg base root ks cs alive vk vc):Fe w b g lg base root ks cs alive:=by
 refine⟨fun w2 h1 h2=> ?_,Qew h.al⟩;have hs:Yp (spc b g vk vc) w w2:=⟨h1,fun k hk hl=>h2 k (fun e=>hk (.inr (.inl e))) hl⟩;obtain⟨vb,vr,hb,hf,hr⟩:=h.cells;obtain⟨rs,rfl,k1,k2⟩:=h.kn;obtain⟨ss,rfl,c1,c2⟩:=h.cm;have he:Ext w1 { w2 with os:=w1.os,tape:=w1.tape,output:=w1.output } :=⟨rfl,rfl,rfl,Qx h.ext.size h1,fun k hk=>(h2 k (fun e=>by have:=h.al.lt.1;omega) (Qy hk h.ext.size)).trans (h.ext.block hk)⟩;have RW:=hf.ext he;have rJ:Bp w2 vb base:=RW;refine⟨vb,vr,vk,vc,(h2 b h.lo.2 (Qf hb)).trans hb,rJ,hr w2 hs,Qt5 (Zp k1 fun k hk=>h2 k (fun e=>h.dk.2 (e▸hk)) (k1.lt k hk).2) fun r hr=>k2 r hr w2 hs,Qtz (Zp c1 fun k hk=>h2 k (fun e=>h.dc.2 (e▸hk)) (c1.lt k hk).2) fun r hr=>⟨(c2 r hr).1 w2 hs,(c2 r hr).2 w2 hs⟩⟩
theorem Ir {a0 a1 a2 a3 a4 a5 u:Value} {t:TypeId}(h:w.heap[b]?=some (.cells #[a0,a1,a2,a3,a4,a5] t (0,0))):
 (w.setCell ⟨b,2,none⟩ u).heap[b]?=some (.cells #[a0,a1,u,a3,a4,a5] t (0,0))/\(w.setCell ⟨b,3,none⟩ u).heap[b]?=some (.cells #[a0,a1,a2,u,a4,a5] t (0,0))/\(w.setCell ⟨b,4,none⟩ u).heap[b]?=some (.cells #[a0,a1,a2,a3,u,a5] t (0,0)):=by
 refine⟨?_,?_,?_⟩ <;>(simp only [World.setCell,Array.getElem?_modify,h,if_true,Option.map_some];simp)
theorem Ci(k:Nat)(u:Value):Yp (fun x=>x=b) w (w.setCell ⟨b,k,none⟩ u):=
 ⟨by simp [World.setCell],fun x hx _=>Below.heap_setCell _ _ _ _ hx⟩
theorem Qkt {r:Option Nat}(h:w.grownBy w' r):Yp (fun x=>r=some x) w w':=⟨h.size,fun k hk hl=>h.block k hl (fun e=>hk e.symm)⟩
theorem Qxs {a:World}(h:Ext a w)(hb:a.heap.size<=b)(k:Nat)(u:Value):Ext a (w.setCell ⟨b,k,none⟩ u):=h.setCell (p:=⟨b,k,none⟩) hb u
theorem Xd.root_ {vr:Value} {root':List Bool}(h:Xd w1 w b g lg base root ks cs alive vk vc)(hr:Frz (spc b g vk vc) w (fun w'=>Kl w' vr root')):Xd w1 (w.setCell ⟨b,2,none⟩ vr) b g lg base root' ks cs alive vk vc:=by
 have hs:=Ci (w:=w) (b:=b) 2 vr;have hx:∀k,k < w.heap.size->spc b g vk vc k->spc b g vk vc k:=fun _ _ h=>h
 have XP:Yp (spc b g vk vc) w (w.setCell ⟨b,2,none⟩ vr):=⟨hs.1,fun k hk hl=>hs.2 k (fun e=>hk (.inl e)) hl⟩;refine⟨Qxs h.ext h.lo.1 2 vr,h.lo,?_,Zp h.al fun k hk=>hs.2 k (fun e=> ?_) ?_,?_,?_,h.dk,h.dc,h.dd⟩
 ·obtain⟨vb,_,hb,h1,_⟩:=h.cells;exact⟨vb,vr,(Ir hb).1,h1,hr.next XP hx⟩
 ·have:k=g:=by injection hk with hk;exact hk.symm
  exact h.lo.2 (by omega)
 ·exact by have e:k=g:=by injection hk with hk;exact hk.symm
           rw [e];exact h.al.lt.2
 ·obtain⟨rs,e,h1,h2⟩:=h.kn;exact⟨rs,e,Zp h1 fun k hk=>hs.2 k (fun e=>h.dk.1 (e▸hk)) (h1.lt k hk).2,fun r hr=>(h2 r hr).next XP hx⟩
 obtain⟨rs,e,h1,h2⟩:=h.cm;exact⟨rs,e,Zp h1 fun k hk=>hs.2 k (fun e=>h.dc.1 (e▸hk)) (h1.lt k hk).2,fun r hr=>⟨(h2 r hr).1.next XP hx,(h2 r hr).2.next XP hx⟩⟩
theorem Xd.know {w4:World} {c:Obj} {vk' vh:Value} {n:Kn} {rs:List (Kn×Value)}(h:Xd w1 w b g lg base root ks cs alive vk vc)(lT:rs.map Prod.fst=ks)(uQ:∀r∈rs,Frz (spc b g vk vc) w (fun w'=>Kl w' r.2 r.1.holds))
 (hh:Frz (fun k=>spc b g vk vc k) w (fun w'=>Kl w' vh n.holds))(zP:w4.ownsRow w1.heap.size 136 3 vk' (rs.length+1) (rs.flatMap knV++knV (n,vh)))(hg:(w.alloc c).grownBy w4 vk.ownBlock)(ho:vk'.ownBlock=vk.ownBlock\/vk'.ownBlock=some (w.alloc c).heap.size):
 Xd w1 (w4.setCell ⟨b,3,none⟩ vk') b g lg base root (ks++ [n]) cs alive vk' vc:=by
 have wB:Yp (fun x=>vk.ownBlock=some x) w w4:=(Yp.of_ext ((Ext.refl w).alloc c)).trans (Qkt hg) (fun _ _ h=>h);have pC:w.heap.size < (w.alloc c).heap.size:=by simp
 have xP:Yp (fun x=>x=b\/vk.ownBlock=some x) w (w4.setCell ⟨b,3,none⟩ vk'):=by
  refine⟨by rw [show(w4.setCell ⟨b,3,none⟩ vk').heap.size=w4.heap.size by simp [World.setCell]];exact wB.1,fun k hk hl=> ?_⟩;rw [(Ci (w:=w4) (b:=b) 3 vk').2 k (fun e=>hk (.inl e)) (Qy hl wB.1)];exact wB.2 k (fun e=>hk (.inr e)) hl
 have rM:Yp (spc b g vk vc) w (w4.setCell ⟨b,3,none⟩ vk'):=⟨xP.1,fun k hk hl=>xP.2 k (fun e=>hk (e.elim .inl fun e=> .inr (.inr (.inl e)))) hl⟩;have hx:∀k,k < w.heap.size->spc b g vk' vc k->spc b g vk vc k:=fun k hl e=>by
  rcases e with e|e|e|e
  ·exact .inl e
  ·exact .inr (.inl e)
  ·rcases ho with ho|ho
   ·exact .inr (.inr (.inl (ho▸e)))
   rw [ho]at e;injection e with e;omega
  exact .inr (.inr (.inr e))
 have yW:=h.blt;have wO:∀k,vk.ownBlock=some k->w1.heap.size<=k:=fun k hk=>by
  obtain⟨_,_,h1,_⟩:=h.kn;exact(h1.lt k hk).1
 have xO:=h.al.lt;refine⟨?_,h.lo,?_,Zp h.al fun k hk=> ?_,?_,?_,?_,h.dc,fun k hk wM=> ?_⟩
 ·exact Qxs ((h.ext.alloc c).grown hg wO) h.lo.1 3 vk'
 ·obtain⟨vb,vr,hb,h1,h2⟩:=h.cells;have VC:w4.heap[b]?=_:=(wB.2 b (fun e=>h.dk.1 e) yW).trans hb;exact⟨vb,vr,(Ir VC).2.1,h1,h2.next rM hx⟩
 ·have e:k=g:=by injection hk with hk;exact hk.symm
  subst e;exact xP.2 k (fun e=>e.elim (fun e=>h.lo.2 e.symm) (fun e=>h.dk.2 e)) xO.2
 ·refine⟨rs++ [(n,vh)],by rw [List.map_append,lT];rfl,?_,fun r hr=> ?_⟩
  ·rw [List.length_append,List.length_singleton,List.flatMap_append,List.flatMap_singleton];refine Zp zP fun k hk=>(Ci (w:=w4) (b:=b) 3 vk').2 k (fun e=> ?_) (zP.lt k hk).2
   subst e;rcases ho with ho|ho
   ·exact h.dk.1 (ho▸hk)
   rw [ho]at hk;injection hk with hk;omega
  rcases List.mem_append.1 hr with hr|hr
  ·exact(uQ r hr).next rM hx
  rw [List.mem_singleton.1 hr];exact hh.next rM hx
 ·obtain⟨ss,e,h1,h2⟩:=h.cm;exact⟨ss,e,Zp h1 fun k hk=>xP.2 k (fun e=>e.elim (fun e=>h.dc.1 (e▸hk)) (fun e=>h.dd k e hk)) (h1.lt k hk).2,fun r hr=>⟨(h2 r hr).1.next rM hx,(h2 r hr).2.next rM hx⟩⟩
 ·rcases ho with ho|ho
  ·rw [ho];exact h.dk
  rw [ho];exact⟨fun e=>by injection e with e;omega,fun e=>by injection e with e;omega⟩
 rcases ho with ho|ho
 ·exact h.dd k (ho▸hk) wM
 rw [ho]at hk;injection hk with hk;obtain⟨_,_,h1,_⟩:=h.cm;have:=(h1.lt k wM).2;omega
theorem Xd.comm {w4:World} {c:Obj} {vc' vx vy:Value} {n:Cm} {rs:List (Cm×Value×Value)}(h:Xd w1 w b g lg base root ks cs alive vk vc)(lT:rs.map Prod.fst=cs)(xI:∀r∈rs,Frz (spc b g vk vc) w (fun w'=>Kl w' r.2.1 r.1.x)/\Frz (spc b g vk vc) w (fun w'=>Kl w' r.2.2 r.1.y))
 (hhx:Frz (spc b g vk vc) w (fun w'=>Kl w' vx n.x))(hhy:Frz (spc b g vk vc) w (fun w'=>Kl w' vy n.y))(zP:w4.ownsRow w1.heap.size 138 5 vc' (rs.length+1) (rs.flatMap cmV++cmV (n,vx,vy)))(hg:(w.alloc c).grownBy w4 vc.ownBlock)(ho:vc'.ownBlock=vc.ownBlock\/vc'.ownBlock=some (w.alloc c).heap.size):
 Xd w1 (w4.setCell ⟨b,4,none⟩ vc') b g lg base root ks (cs++ [n]) alive vk vc':=by
 have wB:Yp (fun x=>vc.ownBlock=some x) w w4:=(Yp.of_ext ((Ext.refl w).alloc c)).trans (Qkt hg) (fun _ _ h=>h);have pC:w.heap.size < (w.alloc c).heap.size:=by simp
 have xP:Yp (fun x=>x=b\/vc.ownBlock=some x) w (w4.setCell ⟨b,4,none⟩ vc'):=by
  refine⟨by rw [show(w4.setCell ⟨b,4,none⟩ vc').heap.size=w4.heap.size by simp [World.setCell]];exact wB.1,fun k hk hl=> ?_⟩;rw [(Ci (w:=w4) (b:=b) 4 vc').2 k (fun e=>hk (.inl e)) (Qy hl wB.1)];exact wB.2 k (fun e=>hk (.inr e)) hl
 have rM:Yp (spc b g vk vc) w (w4.setCell ⟨b,4,none⟩ vc'):=⟨xP.1,fun k hk hl=>xP.2 k (fun e=>hk (e.elim .inl fun e=> .inr (.inr (.inr e)))) hl⟩;have hx:∀k,k < w.heap.size->spc b g vk vc' k->spc b g vk vc k:=fun k hl e=>by
  rcases e with e|e|e|e
  ·exact .inl e
  ·exact .inr (.inl e)
  ·exact .inr (.inr (.inl e))
  rcases ho with ho|ho
  ·exact .inr (.inr (.inr (ho▸e)))
  rw [ho]at e;injection e with e;omega
 have yW:=h.blt;have yS:∀k,vc.ownBlock=some k->w1.heap.size<=k:=fun k hk=>by
  obtain⟨_,_,h1,_⟩:=h.cm;exact(h1.lt k hk).1
 have xO:=h.al.lt;refine⟨?_,h.lo,?_,Zp h.al fun k hk=> ?_,?_,?_,h.dk,?_,fun k hk wM=> ?_⟩
 ·exact Qxs ((h.ext.alloc c).grown hg yS) h.lo.1 4 vc'
 ·obtain⟨vb,vr,hb,h1,h2⟩:=h.cells;have VC:w4.heap[b]?=_:=(wB.2 b (fun e=>h.dc.1 e) yW).trans hb;exact⟨vb,vr,(Ir VC).2.2,h1,h2.next rM hx⟩
 ·have e:k=g:=by injection hk with hk;exact hk.symm
  subst e;exact xP.2 k (fun e=>e.elim (fun e=>h.lo.2 e.symm) (fun e=>h.dc.2 e)) xO.2
 ·obtain⟨ss,e,h1,h2⟩:=h.kn;exact⟨ss,e,Zp h1 fun k hk=>xP.2 k (fun e=>e.elim (fun e=>h.dk.1 (e▸hk)) (fun e=>h.dd k hk e)) (h1.lt k hk).2,fun r hr=>(h2 r hr).next rM hx⟩
 ·refine⟨rs++ [(n,vx,vy)],by rw [List.map_append,lT];rfl,?_,fun r hr=> ?_⟩
  ·rw [List.length_append,List.length_singleton,List.flatMap_append,List.flatMap_singleton];refine Zp zP fun k hk=>(Ci (w:=w4) (b:=b) 4 vc').2 k (fun e=> ?_) (zP.lt k hk).2
   subst e;rcases ho with ho|ho
   ·exact h.dc.1 (ho▸hk)
   rw [ho]at hk;injection hk with hk;omega
  rcases List.mem_append.1 hr with hr|hr
  ·exact⟨(xI r hr).1.next rM hx,(xI r hr).2.next rM hx⟩
  rw [List.mem_singleton.1 hr];exact⟨hhx.next rM hx,hhy.next rM hx⟩
 ·rcases ho with ho|ho
  ·rw [ho];exact h.dc
  rw [ho];exact⟨fun e=>by injection e with e;omega,fun e=>by injection e with e;omega⟩
 rcases ho with ho|ho
 ·exact h.dd k hk (ho▸wM)
 rw [ho]at wM;injection wM with wM;obtain⟨_,_,h1,_⟩:=h.kn;have:=(h1.lt k hk).2;omega
theorem Xd.start(he:Ext w1 w)(vK:w1.heap.size<=b/\b≠g)(hb:w.heap[b]?=some (.cells #[.int .i64 lg,vk,.slice none 0 0,.slice none 0 0,.slice none 0 0,.slice (some ⟨g,0,none⟩) alive.length alive.length] 93 (0,0)))(hf:Bp w1 vk base)(vS:Kg w1.heap.size w g alive):
 Xd w1 w b g lg base [] [] [] alive (.slice none 0 0) (.slice none 0 0):=
 ⟨he,vK,⟨_,_,hb,hf,fun _ _=>Qmf _⟩,vS,⟨[],rfl,World.ownsRow_nil _ _ _ _,by simp⟩,⟨[],rfl,World.ownsRow_nil _ _ _ _,by simp⟩,⟨by simp [Value.ownBlock],by simp [Value.ownBlock]⟩,⟨by simp [Value.ownBlock],by simp [Value.ownBlock]⟩,fun k hk=>by simp [Value.ownBlock]at hk⟩
theorem Xd.fresh {w0:World} {gh:Nat} {l:List Bool}(h:Xd w1 w0 b g lg base root ks cs alive vk vc)(hr:Kg w0.heap.size w gh l):Frz (spc b g vk vc) w (fun w'=>Kl w' (.slice (some ⟨gh,0,none⟩) l.length l.length) l):=
 Frz.of_row hr fun e=>by
  have h1:=hr.lt.1;rcases e with e|e|e|e
  ·have:=h.blt;omega
  ·have:=h.al.lt.2;omega
  ·obtain⟨_,_,h2,_⟩:=h.kn;have:=(h2.lt gh e).2;omega
  obtain⟨_,_,h2,_⟩:=h.cm;have:=(h2.lt gh e).2;omega
theorem Xd.reads(h:Xd w1 w b g lg base root ks cs alive vk vc):w.cell? ⟨b,3,none⟩=some vk/\w.cell? ⟨b,4,none⟩=some vc/\w.cell? ⟨b,5,none⟩=some (.slice (some ⟨g,0,none⟩) alive.length alive.length)/\(∀j,w.frozen? ⟨b,j,none⟩=false)/\b < w.heap.size:=by
 obtain⟨_,_,hb,_⟩:=h.cells;obtain⟨⟨_,_,_,d3,d4,d5⟩,hf,hl⟩:=Vm hb;exact⟨d3,d4,d5,hf,hl⟩
theorem Xd.eng(h:Xd w1 w b g lg base root ks cs alive vk vc):Eng w b lg base root ks cs alive:=h.engX.eng
end
end Go.Proofs.YtkmclcmnoicagaaGreatDoor
