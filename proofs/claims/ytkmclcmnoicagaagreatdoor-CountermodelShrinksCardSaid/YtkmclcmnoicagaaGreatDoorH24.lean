/- types' expand: the walk. -/
import Derived.Test.YtkmclcmnoicagaaGreatDoorH23
namespace Go.Proofs.YtkmclcmnoicagaaGreatDoor
set_option maxRecDepth 100000
set_option maxHeartbeats 128000000
open Go.RowKit
theorem Tg {o c:Int}(h:o=c):(o==1)=(c==1)/\(o==2)=(c==2)/\(o==3)=(c==3)/\(o==4)=(c==4)/\(o==9)=(c==9)/\(o==10)=(c==10)/\(o==11)=(c==11)/\(o==5)=(c==5)/\(o==6)=(c==6)/\(o==7)=(c==7)/\(o==8)=(c==8):=by
 subst h;exact⟨rfl,rfl,rfl,rfl,rfl,rfl,rfl,rfl,rfl,rfl,rfl⟩
theorem Qqd(v:Value)(f:List Nd)(w:World)(h:Yq w v f)(hc:check f=0)(hl:∀n∈Qf f,(1<=n.op/\n.op<=11)\/n.op=13):
 Calls Tryz.prog 56 #[v] w fun e w'=>∃u,e=.returned u/\Yq w' u (Ji f)/\Qg w w':=by
 have H:=Qq h;obtain⟨iI,pU,vQ,vP,vO⟩:=info_parts Qg3;obtain⟨A,c,rfl,_⟩:=Qc h;obtain⟨kY,WU,pP,kF⟩:=Jb hc;have LM:(Qf f).length<=200:=Qx WU (Jf hc).2.1;obtain⟨cl,yU⟩:∃b,b=Qf f:=⟨_,rfl⟩;rw [<-yU]at kY pP kF LM hl;have uO:=Qq yU;have gS:=Qq kY;have kP:=Qq kF;have lL:=Qq hl;clear h hc kY WU kF yU hl;go_enter Tryz.func56,Tryz.ntmps56;go_wp2_with fail;refine(Fs _ f _ H.out).mono ?_;rintro e w0 ⟨uc,rfl,oX⟩;rw [<-uO.out]at oX;have jC:=Qq oX;obtain⟨Ac,cc,rfl,xR,yN,zM⟩:=Qc oX.fml;obtain⟨ad,rfl,yX,zH⟩:=zM (by intro e;rw [e]at pP;simp at pP)
 have qJ:=Qq zH;unfold maxLen at yN;clear oX zM zH;go_wp2_with fail;go_loopw [3,14] (fun vo vi wr=>∃k:Nat,vi=.int .i64 (k:Int)/\k<=cl.length/\Hid (∃out,Ux (cl.take k) []=some out/\out.length=k/\Ky w0 wr vo out)) (fun _ v _=>cl.length - (intOf v).toNat)
 case atStart=>exact⟨0,rfl,Nat.zero_le _,Qq ⟨[],rfl,rfl,Ky.nil _⟩⟩
 case round =>
  obtain⟨k,rfl,hk,zY⟩:=hrel;obtain⟨out,ho,zP,xM⟩:=zY.out;obtain⟨us,zR,tJ⟩:=xM.row;obtain⟨Ao,co,rfl⟩:=Qt zR;have HO:=Qq ho;have zE:=Qq zP;have wW:=Qq xM;have yO:=Qq zR;have lG:=Qq tJ;have sZ:out.length<=1000:=by omega
  clear zY ho xM zR tJ zP;by_cases hlt2:k < cl.length
  ·have yV:(k:Int) < (cl.length:Int):=by omega
   obtain⟨n,hn⟩:∃n,cl[k]?=some n:=⟨_,Qv hlt2⟩;obtain⟨c0,c1,c2,c3,c4,c5⟩:=(qJ.out k n hn).keep fun p hp=>wW.out.ext.cell (p:=p) (by rw [hp,Qr];exact yX)
   have tD:(ad.add (k*6)).block < wr.heap.size:=by rw [Qr];exact Qy yX wW.out.ext.size
   have HN:=Qq hn;have zI:=lL.out n (List.mem_of_getElem? hn);have I6:=Qq (kP.out n (List.mem_of_getElem? hn));have QO:=Qq (gS.out k n hn);have hG:=Qq (show n.ok from jC.out.2.1 n (List.mem_of_getElem? hn));clear hn;obtain⟨wq,vC⟩:∃v,v=wr:=⟨_,rfl⟩;subst vC;have TD:(n.op=1\/n.op=2\/n.op=3)\/(n.op=4\/n.op=9\/n.op=10\/n.op=11)\/(n.op=5\/n.op=6\/n.op=7\/n.op=8\/n.op=13):=by omega
   rcases TD with zI|zI|zI
   ·have KR:n.op < 4:=by omega
    have lF:=Qq (show(wq.alloc (.cells #[.int .i64 n.op,.int .i64 n.i,.int .i64 n.e,.int .i64 n.g,.int .i64 n.x,.int .i64 n.y] 71)).heap[wq.heap.size]?=some (.cells #[.int .i64 n.op,.int .i64 n.i,.int .i64 n.e,.int .i64 n.g,.int .i64 n.x,.int .i64 n.y] 71 (0,0))from heap_alloc_new _ _);obtain⟨⟨d0,d1,d2,d3,d4,d5⟩,dfr,dlt⟩:=Vc lF.out;go_upto_block 2 with(fail);go_cut [8] (fun s8 wx=>Hid (Vq wq wx s8 (Jc n (out.getD n.x.toNat []) (out.getD n.y.toNat []))))
    case first =>
     rcases zI with zI|zI|zI
     ·have HS:=Qq (show Jc n (out.getD n.x.toNat []) (out.getD n.y.toNat [])=Qzn by unfold Jc;rw [zI];rfl);obtain⟨t1,t2,t3,t4,t9,t10,t11,t5,t6,t7,t8⟩:=Tg zI;clear zI;go_wp2_with fail;refine(Qrx _).mono ?_;rintro e w2 ⟨u,rfl,hm⟩;have HM:=Qq (hm.before (Qz.alloc _));clear hm;go_wp2_with fail;go_meet;exact Qq (by rw [HS.out];exact HM.out)
     ·have HS:=Qq (show Jc n (out.getD n.x.toNat []) (out.getD n.y.toNat [])=If by unfold Jc;rw [zI];rfl);obtain⟨t1,t2,t3,t4,t9,t10,t11,t5,t6,t7,t8⟩:=Tg zI;clear zI;go_wp2_with fail;refine(Qp7 _).mono ?_;rintro e w2 ⟨u,rfl,hm⟩;have HM:=Qq (hm.before (Qz.alloc _));clear hm;go_wp2_with fail;go_meet;exact Qq (by rw [HS.out];exact HM.out)
     have HS:=Qq (show Jc n (out.getD n.x.toNat []) (out.getD n.y.toNat [])=Qxf n.i by unfold Jc;rw [zI];rfl);obtain⟨t1,t2,t3,t4,t9,t10,t11,t5,t6,t7,t8⟩:=Tg zI;clear zI;go_wp2_with fail;refine(Qer n.i hG.out.2.1 _).mono ?_;rintro e w2 ⟨u,rfl,hm⟩;have HM:=Qq (hm.before (Qz.alloc _));clear hm;go_wp2_with fail;go_meet;exact Qq (by rw [HS.out];exact HM.out)
    case rest =>
     have HG:=hcut;clear hcut;obtain⟨As8,cs8,rfl,_⟩:=Qc HG.out.fml;have rU:=Qq HG.out.ext;by_cases hz:(Jc n (out.getD n.x.toNat []) (out.getD n.y.toNat [])).length=0
     ·have HE:=Qq (show Ji f= [] by
       unfold Ji;rw [<-uO.out,Hg (k:=k+1) (by rw [Dl HN.out HO.out,decide_eq_true hz];rfl)])
      have rQ:(((Jc n (out.getD n.x.toNat []) (out.getD n.y.toNat [])).length:Int)==0)=true:=by rw [hz];rfl
      generalize (Jc n (out.getD n.x.toNat []) (out.getD n.y.toNat [])).length=m8 at hz rQ;clear hz;go_wp2_with fail;go_ret;exact⟨_,rfl,by rw [HE.out];exact Ms _,jC.out.ext.trans (wW.out.ext.trans rU.out)⟩
     have rQ:(((Jc n (out.getD n.x.toNat []) (out.getD n.y.toNat [])).length:Int)==0)=false:=by rw [beq_eq_false_iff_ne];omega
     have vY:=Qq (show Ux (cl.take (k+1)) []=some (out++ [Jc n (out.getD n.x.toNat []) (out.getD n.y.toNat [])]) by rw [Dl HN.out HO.out,decide_eq_false hz];rfl);clear hz;generalize Jc n (out.getD n.x.toNat []) (out.getD n.y.toNat [])=g8 at HG rQ vY;have xS:out.length+1<=maxLen:=by unfold maxLen;omega
     have xP:(out.length+1)*24<=140737488355328:=by omega
     go_wp2_with(at_builtin;refine wpList_append_own_at _ rfl _ _ 32 rfl w0.heap.size 22 iI (.slice none 0 0) 1 24 Tryz.underlying32 pU vQ vP vO rfl (by decide) _ out.length us rfl (Zg yO.out (rU.out.alloc _)) ⟨_,0,none⟩ 1 1 [.slice As8 g8.length cs8] rfl rfl (Zt _ _ _ (by simp)) (fun u hu=>by rw [List.mem_singleton.1 hu];rfl) xS xP (Qx wW.out.ext.size (rU.out.alloc _).size) ?_);intro v7 w7 zW zX _ zF;have pC:=Qq (Ky.push (s:=g8) ((wW.out.ext.trans rU.out).alloc _) (Zg yO.out (rU.out.alloc _)) (fun k s hk=>by
      obtain⟨u,a,b,c⟩:=lG.out k s hk;exact⟨u,a,b.ext (rU.out.alloc _),c.ext (rU.out.alloc _)⟩) zW zX (zF.imp id (fun e=>e.trans (by simp))) (HG.out.fml.ext (Qz.alloc _)) (Lg (Nat.le_refl _) (Zg HG.out.1 (Qz.alloc _)) yO.out wW.out.ext.size))
     obtain⟨A7,c7,rfl⟩:=Qt zW;clear zW zX zF;go_wp2_with fail;go_roundw
     case rel=>exact⟨k+1,by go_num,by omega,Qq ⟨_,vY.out,by rw [List.length_append,zE.out];rfl,pC.out⟩⟩
     case measure=>simp [intOf];omega
   ·have KR:4<=n.op:=by omega
    have hX:0<=n.x/\n.x < k:=QO.out.1 (by rcases zI with e|e|e|e <;> rw [e] <;> rfl);obtain⟨g0,cap0,nH,vS,xN⟩:=wW.out.slice (by rw [zE.out];omega);injection nH with hsl1 _ vR;subst hsl1 vR;unfold maxLen at xN;obtain⟨j,hj⟩:=Int.eq_ofNat_of_zero_le hX.1;obtain⟨sx,sQ⟩:∃s,out[j]?=some s:=⟨_,List.getElem?_eq_getElem (by rw [zE.out];omega)⟩;obtain⟨ux,pJ,iQ,xK⟩:=wW.out.get sQ;have oQ:=Qq (show out.getD n.x.toNat []=sx by rw [hj,Int.toNat_natCast,Qk,sQ];rfl);have jE:=Qq iQ;obtain⟨Ax,cx,rfl,_⟩:=Qc iQ;have lE:(j:Int) < (out.length:Int):=by rw [zE.out];omega
    have XH:=Qq hj;have c4':wq.cell? ⟨(ad.add (k*6)).block,(ad.add (k*6)).off+4,none⟩=some (.int .i64 (j:Int)):=by rw [c4,hj]
    rw [hj]at c4;clear sQ iQ hX hj c4';have lF:=Qq (show(wq.alloc (.cells #[.int .i64 n.op,.int .i64 n.i,.int .i64 n.e,.int .i64 n.g,.int .i64 (j:Int),.int .i64 n.y] 71)).heap[wq.heap.size]?=some (.cells #[.int .i64 n.op,.int .i64 n.i,.int .i64 n.e,.int .i64 n.g,.int .i64 (j:Int),.int .i64 n.y] 71 (0,0))from heap_alloc_new _ _);obtain⟨⟨d0,d1,d2,d3,d4,d5⟩,dfr,dlt⟩:=Vc lF.out;go_upto_block 2 with(fail);go_cut [8] (fun s8 wx=>Hid (Vq wq wx s8 (Jc n (out.getD n.x.toNat []) (out.getD n.y.toNat []))))
    case first =>
     rcases zI with zI|zI|zI|zI
     ·have HS:=Qq (show Jc n (out.getD n.x.toNat []) (out.getD n.y.toNat [])=Kk (out.getD n.x.toNat []) by unfold Jc;rw [zI];rfl);obtain⟨t1,t2,t3,t4,t9,t10,t11,t5,t6,t7,t8⟩:=Tg zI;clear zI;go_wp2_with fail;refine(Eq _ sx _ (jE.out.ext (Qz.alloc _))).mono ?_;rintro e w2 ⟨u,rfl,hm⟩;have HM:=Qq (hm.before (Qz.alloc _));clear hm;go_wp2_with fail;go_meet;exact Qq (by rw [HS.out,oQ.out];exact HM.out)
     ·have HS:=Qq (show Jc n (out.getD n.x.toNat []) (out.getD n.y.toNat [])=Uq n.i (out.getD n.x.toNat []) by unfold Jc;rw [zI];rfl);obtain⟨t1,t2,t3,t4,t9,t10,t11,t5,t6,t7,t8⟩:=Tg zI;clear zI;go_wp2_with fail;refine(Mc n.i hG.out.2.1 _ sx _ (jE.out.ext (Qz.alloc _))).mono ?_;rintro e w2 ⟨u,rfl,hm⟩;have HM:=Qq (hm.before (Qz.alloc _));clear hm;go_wp2_with fail;go_meet;exact Qq (by rw [HS.out,oQ.out];exact HM.out)
     ·have HS:=Qq (show Jc n (out.getD n.x.toNat []) (out.getD n.y.toNat [])=Kk (Uq n.i (Kk (out.getD n.x.toNat []))) by unfold Jc;rw [zI];rfl);obtain⟨t1,t2,t3,t4,t9,t10,t11,t5,t6,t7,t8⟩:=Tg zI;clear zI;go_upto_region 31 with(fail);have RC:Qg wq (wq.alloc (.cells #[.int .i64 n.op,.int .i64 n.i,.int .i64 n.e,.int .i64 n.g,.int .i64 (j:Int),.int .i64 n.y] 71)):=Qz.alloc _;have XO:=Qq (jE.out.ext RC);obtain⟨W0,zK⟩:∃v,v=wq.alloc (.cells #[.int .i64 n.op,.int .i64 n.i,.int .i64 n.e,.int .i64 n.g,.int .i64 (j:Int),.int .i64 n.y] 71):=⟨_,rfl⟩;rw [<-zK]at d1 dlt RC XO⊢;clear zK d0 d2 d3 d4 d5 c0 c1 c2 c3 c4 c5 dfr lF
      refine wp_region_held_drew (S:=fun w'=>w'.cell? (⟨wq.heap.size,1,none⟩)=some (.int .i64 n.i)) (by kernel_rfl) (xc dlt d1) (fun zZ=> ?_);refine tk 0 zZ ?_;refine tk 1 zZ ?_;refine tk 2 zZ ?_;refine wpAnyH_ready (rs:= [3]) (by kernel_rfl) (by simp) ?_;refine AllReadyH.cons rfl (fun K hK=> ?_) AllReadyH.nil;go_simp;refine(Eq _ sx _ (XO.out.ext xw)).mono ?_;rintro e w2 ⟨u2,rfl,xO⟩;have zS:Qg W0 w2:=Qg.trans xw xO.ext;have wE:=Qq (xO.before (w0:=W0) xw);clear xO;go_wp2_with fail;refine hK.out _ _ (xc dlt d1) (fun zZ=> ?_);clear hK K;refine Qd ?_;refine wpAnyH_ready (rs:= [4]) (by kernel_rfl) (by simp) ?_
      refine AllReadyH.cons rfl (fun K hK=> ?_) AllReadyH.nil;go_simp;refine(Mc n.i hG.out.2.1 _ _ _ (wE.out.fml.ext xw)).mono ?_;rintro e w3 ⟨u3,rfl,lQ⟩;have zC:Qg W0 w3:=Qg.trans xw lQ.ext;have mH:=Qq (lQ.before (w0:=W0) xw);clear lQ;go_wp2_with fail;refine hK.out _ _ (xc dlt d1) (fun zZ=> ?_);clear hK K;refine Qd ?_;refine wpAnyH_ready (rs:= [5]) (by kernel_rfl) (by simp) ?_;refine AllReadyH.cons rfl (fun K hK=> ?_) AllReadyH.nil;go_simp;refine(Eq _ _ _ (mH.out.fml.ext xw)).mono ?_;rintro e w4 ⟨u4,rfl,nL⟩;have yA:Qg W0 w4:=Qg.trans xw nL.ext;have eM:=Qq (nL.before (w0:=W0) xw)
      clear nL;go_wp2_with fail;refine hK.out _ _ (xc dlt d1) (fun zZ=> ?_);clear hK K;refine Qd ?_;refine tk 6 zZ ?_;refine wpAnyH_done (by kernel_rfl) ?_ _;go_wp2_with fail;go_meet;exact Qq (by rw [HS.out,oQ.out];exact eM.out.before RC)
     have HS:=Qq (show Jc n (out.getD n.x.toNat []) (out.getD n.y.toNat [])=Qva (Ik n.g (out.getD n.x.toNat [])) by unfold Jc;rw [zI];rfl);obtain⟨t1,t2,t3,t4,t9,t10,t11,t5,t6,t7,t8⟩:=Tg zI;have RC:Qg wq (wq.alloc (.cells #[.int .i64 n.op,.int .i64 n.i,.int .i64 n.e,.int .i64 n.g,.int .i64 (j:Int),.int .i64 n.y] 71)):=Qz.alloc _;have XO:=Qq (jE.out.ext RC);have iP:=Qkj I6.out (.inl zI);obtain⟨gn,vL⟩:=Int.eq_ofNat_of_zero_le iP.1;have SW:gn < 16:=by omega
     have mJ:=Qq vL;obtain⟨W0,zK⟩:∃v,v=wq.alloc (.cells #[.int .i64 n.op,.int .i64 n.i,.int .i64 n.e,.int .i64 n.g,.int .i64 (j:Int),.int .i64 n.y] 71):=⟨_,rfl⟩;rw [<-zK]at d0 d1 d2 d3 d4 d5 dlt dfr RC XO lF⊢;have d3':W0.cell? ⟨wq.heap.size,3,none⟩=some (.int .i64 (gn:Int)):=by rw [d3,vL]
     clear zK iP vL zI d1 d2 d3 d4 d5 c0 c1 c2 c3 c4 c5 dfr lF;have D3:=Qq d3';clear d3';go_wp2_with fail;go_loopw [9,91] (fun vo vi wr=>∃q:Nat,vi=.int .i64 (q:Int)/\q<=4/\Hid (∃ol,ol=((List.range q).filter fun i=>Vg (gn:Int) i).map (fun(i:Nat)=>Uq (i:Int) sx)/\Ky W0 wr vo ol)) (fun _ v _=>4 - (intOf v).toNat)
     case atStart=>exact⟨0,rfl,Nat.zero_le _,Qq ⟨[],rfl,Ky.nil _⟩⟩
     case round =>
      obtain⟨q,rfl,hq,zY⟩:=hrel;obtain⟨ol,SF,xM⟩:=zY.out;obtain⟨us2,sC,bY⟩:=xM.row;obtain⟨Ao2,co2,rfl⟩:=Qt sC;have pK:=Qq SF;have wA:=Qq xM;have vZ:=Qq sC;have UA:=Qq bY;have L9:ol.length<=4:=by rw [SF];refine Qx (by rw [List.length_map];exact List.length_filter_le _ _) (by simp;omega)
      clear zY SF xM sC bY;have dl3:=(wA.out.ext.cell (p:=⟨wq.heap.size,3,none⟩) dlt).trans D3.out;have CN:wq.heap.size < wr.heap.size:=Qy dlt wA.out.ext.size;by_cases PY:q < 4
      ·have PZ:(q:Int) < 4:=by omega
       have tC:=Co gn q (by omega);cases tV:gn.testBit q
       case true =>
        rw [tV]at tC;have kR:=Qq (show((List.range (q+1)).filter fun i=>Vg (gn:Int) i).map (fun(i:Nat)=>Uq (i:Int) sx)=ol++ [Uq (q:Int) sx] by rw [List.range_succ,List.filter_append,List.map_append,<-pK.out,List.filter_cons,show Vg (gn:Int) q=true from tV];rfl);clear tV;go_wp2_with fail;refine(Mc (q:Int) ⟨by omega,by omega⟩ _ sx _ (XO.out.ext wA.out.ext)).mono ?_;rintro e w2 ⟨u,rfl,hm⟩;have HM:=Qq hm;have Y1:=Qq hm.ext;obtain⟨Au,cu,rfl,_⟩:=Qc hm.fml;clear hm;have xS:ol.length+1<=maxLen:=by unfold maxLen;omega
        have xP:(ol.length+1)*24<=140737488355328:=by omega
        go_wp2_with(at_builtin;refine wpList_append_own_at _ rfl _ _ 32 rfl W0.heap.size 22 iI (.slice none 0 0) 1 24 Tryz.underlying32 pU vQ vP vO rfl (by decide) _ ol.length us2 rfl (Zg vZ.out (Y1.out.alloc _)) ⟨_,0,none⟩ 1 1 [.slice Au (Uq (q:Int) sx).length cu] rfl rfl (Zt _ _ _ (by simp)) (fun u hu=>by rw [List.mem_singleton.1 hu];rfl) xS xP (Qx wA.out.ext.size (Y1.out.alloc _).size) ?_);intro v7 w7 zW zX _ zF;have pC:=Qq (Ky.push (s:=Uq (q:Int) sx) ((wA.out.ext.trans Y1.out).alloc _) (Zg vZ.out (Y1.out.alloc _)) (fun k s hk=>by
         obtain⟨u,a,b,c⟩:=UA.out k s hk;exact⟨u,a,b.ext (Y1.out.alloc _),c.ext (Y1.out.alloc _)⟩) zW zX (zF.imp id (fun e=>e.trans (by simp))) (HM.out.fml.ext (Qz.alloc _)) (Lg (Nat.le_refl _) (Zg HM.out.1 (Qz.alloc _)) vZ.out wA.out.ext.size))
        obtain⟨A7,c7,rfl⟩:=Qt zW;clear zW zX zF;go_wp2_with fail;go_roundw
        case rel=>exact⟨q+1,by go_num,by omega,Qq ⟨_,kR.out.symm,pC.out⟩⟩
        case measure=>simp [intOf];omega
       case false =>
        rw [tV]at tC;have kR:=Qq (show((List.range (q+1)).filter fun i=>Vg (gn:Int) i).map (fun(i:Nat)=>Uq (i:Int) sx)=ol by rw [List.range_succ,List.filter_append,List.map_append,<-pK.out,List.filter_cons,show Vg (gn:Int) q=false from tV];exact List.append_nil _);clear tV;go_wp2_with fail;go_roundw
        case rel=>exact⟨q+1,by go_num,by omega,Qq ⟨_,kR.out.symm,wA.out⟩⟩
        case measure=>simp [intOf];omega
      obtain rfl:4=q:=by omega
      go_wp2_with fail;refine(Qid _ ol _ wA.out.fmls).mono ?_;rintro e w2 ⟨u2,rfl,xO⟩;have wE:=Qq xO;clear xO;go_wp2_with fail;go_meet;exact Qq (by rw [HS.out,oQ.out,Ik,mJ.out,show((List.range 4).filter fun i=>Vg (gn:Int) i).map (fun(i:Nat)=>Uq (i:Int) sx)=ol from pK.out.symm];exact wE.out.before (RC.trans wA.out.ext))
    case rest =>
     have HG:=hcut;clear hcut;obtain⟨As8,cs8,rfl,_⟩:=Qc HG.out.fml;have rU:=Qq HG.out.ext;by_cases hz:(Jc n (out.getD n.x.toNat []) (out.getD n.y.toNat [])).length=0
     ·have HE:=Qq (show Ji f= [] by
       unfold Ji;rw [<-uO.out,Hg (k:=k+1) (by rw [Dl HN.out HO.out,decide_eq_true hz];rfl)])
      have rQ:(((Jc n (out.getD n.x.toNat []) (out.getD n.y.toNat [])).length:Int)==0)=true:=by rw [hz];rfl
      generalize (Jc n (out.getD n.x.toNat []) (out.getD n.y.toNat [])).length=m8 at hz rQ;clear hz;go_wp2_with fail;go_ret;exact⟨_,rfl,by rw [HE.out];exact Ms _,jC.out.ext.trans (wW.out.ext.trans rU.out)⟩
     have rQ:(((Jc n (out.getD n.x.toNat []) (out.getD n.y.toNat [])).length:Int)==0)=false:=by rw [beq_eq_false_iff_ne];omega
     have vY:=Qq (show Ux (cl.take (k+1)) []=some (out++ [Jc n (out.getD n.x.toNat []) (out.getD n.y.toNat [])]) by rw [Dl HN.out HO.out,decide_eq_false hz];rfl);clear hz;generalize Jc n (out.getD n.x.toNat []) (out.getD n.y.toNat [])=g8 at HG rQ vY;have xS:out.length+1<=maxLen:=by unfold maxLen;omega
     have xP:(out.length+1)*24<=140737488355328:=by omega
     go_wp2_with(at_builtin;refine wpList_append_own_at _ rfl _ _ 32 rfl w0.heap.size 22 iI (.slice none 0 0) 1 24 Tryz.underlying32 pU vQ vP vO rfl (by decide) _ out.length us rfl (Zg yO.out (rU.out.alloc _)) ⟨_,0,none⟩ 1 1 [.slice As8 g8.length cs8] rfl rfl (Zt _ _ _ (by simp)) (fun u hu=>by rw [List.mem_singleton.1 hu];rfl) xS xP (Qx wW.out.ext.size (rU.out.alloc _).size) ?_);intro v7 w7 zW zX _ zF;have pC:=Qq (Ky.push (s:=g8) ((wW.out.ext.trans rU.out).alloc _) (Zg yO.out (rU.out.alloc _)) (fun k s hk=>by
      obtain⟨u,a,b,c⟩:=lG.out k s hk;exact⟨u,a,b.ext (rU.out.alloc _),c.ext (rU.out.alloc _)⟩) zW zX (zF.imp id (fun e=>e.trans (by simp))) (HG.out.fml.ext (Qz.alloc _)) (Lg (Nat.le_refl _) (Zg HG.out.1 (Qz.alloc _)) yO.out wW.out.ext.size))
     obtain⟨A7,c7,rfl⟩:=Qt zW;clear zW zX zF;go_wp2_with fail;go_roundw
     case rel=>exact⟨k+1,by go_num,by omega,Qq ⟨_,vY.out,by rw [List.length_append,zE.out];rfl,pC.out⟩⟩
     case measure=>simp [intOf];omega
   have KR:4<=n.op:=by omega
   have hX:0<=n.x/\n.x < k:=QO.out.1 (by rcases zI with e|e|e|e|e <;> rw [e] <;> rfl);obtain⟨g0,cap0,nH,vS,xN⟩:=wW.out.slice (by rw [zE.out];omega);injection nH with hsl1 _ vR;subst hsl1 vR;unfold maxLen at xN;obtain⟨j,hj⟩:=Int.eq_ofNat_of_zero_le hX.1;obtain⟨sx,sQ⟩:∃s,out[j]?=some s:=⟨_,List.getElem?_eq_getElem (by rw [zE.out];omega)⟩;obtain⟨ux,pJ,iQ,xK⟩:=wW.out.get sQ;have oQ:=Qq (show out.getD n.x.toNat []=sx by rw [hj,Int.toNat_natCast,Qk,sQ];rfl);have jE:=Qq iQ;obtain⟨Ax,cx,rfl,_⟩:=Qc iQ;have lE:(j:Int) < (out.length:Int):=by rw [zE.out];omega
   have XH:=Qq hj;have c4':wq.cell? ⟨(ad.add (k*6)).block,(ad.add (k*6)).off+4,none⟩=some (.int .i64 (j:Int)):=by rw [c4,hj]
   have hY:0<=n.y/\n.y < k:=QO.out.2 (by rcases zI with e|e|e|e|e <;> rw [e] <;> rfl);obtain⟨j2,lS⟩:=Int.eq_ofNat_of_zero_le hY.1;obtain⟨sy,RL⟩:∃s,out[j2]?=some s:=⟨_,List.getElem?_eq_getElem (by rw [zE.out];omega)⟩;obtain⟨uy,sA,SX,_⟩:=wW.out.get RL;have ZT:=Qq (show out.getD n.y.toNat []=sy by rw [lS,Int.toNat_natCast,Qk,RL];rfl);have gC:=Qq SX;obtain⟨Ay,cy,rfl,_⟩:=Qc SX;have BT:(j2:Int) < (out.length:Int):=by rw [zE.out];omega
   rw [lS]at c5;clear RL SX hY lS;rw [hj]at c4;clear sQ iQ hX hj c4';have lF:=Qq (show(wq.alloc (.cells #[.int .i64 n.op,.int .i64 n.i,.int .i64 n.e,.int .i64 n.g,.int .i64 (j:Int),.int .i64 (j2:Int)] 71)).heap[wq.heap.size]?=some (.cells #[.int .i64 n.op,.int .i64 n.i,.int .i64 n.e,.int .i64 n.g,.int .i64 (j:Int),.int .i64 (j2:Int)] 71 (0,0))from heap_alloc_new _ _);obtain⟨⟨d0,d1,d2,d3,d4,d5⟩,dfr,dlt⟩:=Vc lF.out;go_upto_block 2 with(fail);go_cut [8] (fun s8 wx=>Hid (Vq wq wx s8 (Jc n (out.getD n.x.toNat []) (out.getD n.y.toNat []))))
   case first =>
    rcases zI with zI|zI|zI|zI|zI
    ·have HS:=Qq (show Jc n (out.getD n.x.toNat []) (out.getD n.y.toNat [])=Bt (out.getD n.x.toNat []) (out.getD n.y.toNat []) by unfold Jc;rw [zI];rfl);obtain⟨t1,t2,t3,t4,t9,t10,t11,t5,t6,t7,t8⟩:=Tg zI;clear zI;go_wp2_with fail;refine(Qyv _ _ sx sy _ (jE.out.ext (Qz.alloc _)) (gC.out.ext (Qz.alloc _))).mono ?_;rintro e w2 ⟨u,rfl,hm⟩;have HM:=Qq (hm.before (Qz.alloc _));clear hm;go_wp2_with fail;go_meet;exact Qq (by rw [HS.out,oQ.out,ZT.out];exact HM.out)
    ·have HS:=Qq (show Jc n (out.getD n.x.toNat []) (out.getD n.y.toNat [])=orN (out.getD n.x.toNat []) (out.getD n.y.toNat []) by unfold Jc;rw [zI];rfl);obtain⟨t1,t2,t3,t4,t9,t10,t11,t5,t6,t7,t8⟩:=Tg zI;clear zI;go_wp2_with fail;refine(Zys _ _ sx sy _ (jE.out.ext (Qz.alloc _)) (gC.out.ext (Qz.alloc _))).mono ?_;rintro e w2 ⟨u,rfl,hm⟩;have HM:=Qq (hm.before (Qz.alloc _));clear hm;go_wp2_with fail;go_meet;exact Qq (by rw [HS.out,oQ.out,ZT.out];exact HM.out)
    ·have HS:=Qq (show Jc n (out.getD n.x.toNat []) (out.getD n.y.toNat [])=Qkv (out.getD n.x.toNat []) (out.getD n.y.toNat []) by unfold Jc;rw [zI];rfl);obtain⟨t1,t2,t3,t4,t9,t10,t11,t5,t6,t7,t8⟩:=Tg zI;clear zI;go_wp2_with fail;refine(Qgc _ _ sx sy _ (jE.out.ext (Qz.alloc _)) (gC.out.ext (Qz.alloc _))).mono ?_;rintro e w2 ⟨u,rfl,hm⟩;have HM:=Qq (hm.before (Qz.alloc _));clear hm;go_wp2_with fail;go_meet;exact Qq (by rw [HS.out,oQ.out,ZT.out];exact HM.out)
    ·have HS:=Qq (show Jc n (out.getD n.x.toNat []) (out.getD n.y.toNat [])=Qe9 (out.getD n.x.toNat []) (out.getD n.y.toNat []) by unfold Jc;rw [zI];rfl);obtain⟨t1,t2,t3,t4,t9,t10,t11,t5,t6,t7,t8⟩:=Tg zI;clear zI;go_wp2_with fail;refine(Qet _ _ sx sy _ (jE.out.ext (Qz.alloc _)) (gC.out.ext (Qz.alloc _))).mono ?_;rintro e w2 ⟨u,rfl,hm⟩;have HM:=Qq (hm.before (Qz.alloc _));clear hm;go_wp2_with fail;go_meet;exact Qq (by rw [HS.out,oQ.out,ZT.out];exact HM.out)
    have HS:=Qq (show Jc n (out.getD n.x.toNat []) (out.getD n.y.toNat [])=Qgn n.g (out.getD n.x.toNat []) (out.getD n.y.toNat []) by unfold Jc;rw [zI];rfl);obtain⟨t1,t2,t3,t4,t9,t10,t11,t5,t6,t7,t8⟩:=Tg zI;clear zI;go_wp2_with fail;refine(Qlv n.g hG.out.2.2.2.1 _ _ sx sy _ (jE.out.ext (Qz.alloc _)) (gC.out.ext (Qz.alloc _))).mono ?_;rintro e w2 ⟨u,rfl,hm⟩;have HM:=Qq (hm.before (Qz.alloc _));clear hm;go_wp2_with fail;go_meet;exact Qq (by rw [HS.out,oQ.out,ZT.out];exact HM.out)
   case rest =>
    have HG:=hcut;clear hcut;obtain⟨As8,cs8,rfl,_⟩:=Qc HG.out.fml;have rU:=Qq HG.out.ext;by_cases hz:(Jc n (out.getD n.x.toNat []) (out.getD n.y.toNat [])).length=0
    ·have HE:=Qq (show Ji f= [] by
      unfold Ji;rw [<-uO.out,Hg (k:=k+1) (by rw [Dl HN.out HO.out,decide_eq_true hz];rfl)])
     have rQ:(((Jc n (out.getD n.x.toNat []) (out.getD n.y.toNat [])).length:Int)==0)=true:=by rw [hz];rfl
     generalize (Jc n (out.getD n.x.toNat []) (out.getD n.y.toNat [])).length=m8 at hz rQ;clear hz;go_wp2_with fail;go_ret;exact⟨_,rfl,by rw [HE.out];exact Ms _,jC.out.ext.trans (wW.out.ext.trans rU.out)⟩
    have rQ:(((Jc n (out.getD n.x.toNat []) (out.getD n.y.toNat [])).length:Int)==0)=false:=by rw [beq_eq_false_iff_ne];omega
    have vY:=Qq (show Ux (cl.take (k+1)) []=some (out++ [Jc n (out.getD n.x.toNat []) (out.getD n.y.toNat [])]) by rw [Dl HN.out HO.out,decide_eq_false hz];rfl);clear hz;generalize Jc n (out.getD n.x.toNat []) (out.getD n.y.toNat [])=g8 at HG rQ vY;have xS:out.length+1<=maxLen:=by unfold maxLen;omega
    have xP:(out.length+1)*24<=140737488355328:=by omega
    go_wp2_with(at_builtin;refine wpList_append_own_at _ rfl _ _ 32 rfl w0.heap.size 22 iI (.slice none 0 0) 1 24 Tryz.underlying32 pU vQ vP vO rfl (by decide) _ out.length us rfl (Zg yO.out (rU.out.alloc _)) ⟨_,0,none⟩ 1 1 [.slice As8 g8.length cs8] rfl rfl (Zt _ _ _ (by simp)) (fun u hu=>by rw [List.mem_singleton.1 hu];rfl) xS xP (Qx wW.out.ext.size (rU.out.alloc _).size) ?_);intro v7 w7 zW zX _ zF;have pC:=Qq (Ky.push (s:=g8) ((wW.out.ext.trans rU.out).alloc _) (Zg yO.out (rU.out.alloc _)) (fun k s hk=>by
     obtain⟨u,a,b,c⟩:=lG.out k s hk;exact⟨u,a,b.ext (rU.out.alloc _),c.ext (rU.out.alloc _)⟩) zW zX (zF.imp id (fun e=>e.trans (by simp))) (HG.out.fml.ext (Qz.alloc _)) (Lg (Nat.le_refl _) (Zg HG.out.1 (Qz.alloc _)) yO.out wW.out.ext.size))
    obtain⟨A7,c7,rfl⟩:=Qt zW;clear zW zX zF;go_wp2_with fail;go_roundw
    case rel=>exact⟨k+1,by go_num,by omega,Qq ⟨_,vY.out,by rw [List.length_append,zE.out];rfl,pC.out⟩⟩
    case measure=>simp [intOf];omega
  obtain rfl:cl.length=k:=by omega
  obtain⟨g0,cap0,nH,vS,xN⟩:=wW.out.slice (by rw [zE.out];omega);injection nH with hsl1 _ vR;subst hsl1 vR;unfold maxLen at xN;obtain⟨sx,sQ⟩:∃s,out[out.length - 1]?=some s:=⟨_,List.getElem?_eq_getElem (by rw [zE.out];omega)⟩;obtain⟨ux,pJ,iQ,xK⟩:=wW.out.get sQ;have jE:=Qq iQ;have oQ:=Qq (show Ji f=sx by
   have h1:=HO.out;rw [List.take_of_length_le (Nat.le_refl _)]at h1;unfold Ji;rw [<-uO.out,h1];show out.getLastD []=sx;rw [List.getLastD_eq_getLast?,List.getLast?_eq_getElem?,sQ]
   rfl)
  have gN:((out.length:Int) - 1) < (out.length:Int):=by omega
  have iO:(0:Int)<=(out.length:Int) - 1:=by rw [zE.out];omega
  have e1:((out.length:Int) - 1).toNat=out.length - 1:=by omega
  clear sQ iQ;go_wp2_with fail;go_ret;exact⟨ux,rfl,by rw [oQ.out];exact jE.out,jC.out.ext.trans wW.out.ext⟩
end Go.Proofs.YtkmclcmnoicagaaGreatDoor
