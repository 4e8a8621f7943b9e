/- types' expand: the walk. -/
import Derived.Test.YtkmclcmnoicagaaGreatDoorL23
namespace Go.Proofs.YtkmclcmnoicagaaGreatDoor
set_option maxRecDepth 100000
set_option maxHeartbeats 128000000
open Go.RowKit
theorem Tf {o c:Int}(h:o=c):(o==1)=(c==1)/\(o==2)=(c==2)/\(o==3)=(c==3)/\(o==4)=(c==4)/\(o==9)=(c==9)/\(o==10)=(c==10)/\(o==11)=(c==11)/\(o==5)=(c==5)/\(o==6)=(c==6)/\(o==7)=(c==7)/\(o==8)=(c==8):=by
 subst h;exact⟨rfl,rfl,rfl,rfl,rfl,rfl,rfl,rfl,rfl,rfl,rfl⟩
theorem Qqq(v:Value)(f:List Nd)(w:World)(h:Jo w v f)(hc:check f=0)(hl:∀n∈Qf f,(1<=n.op/\n.op<=11)\/n.op=13):
 Calls Tryz.prog 56 #[v] w fun e w'=>∃u,e=.returned u/\Jo w' u (Ja f)/\Qg w w':=by
 have H:=Qq h;obtain⟨iI,pO,vO,vN,vM⟩:=info_parts Qgs;obtain⟨A,c,rfl,_⟩:=Qc h;obtain⟨kR,YF,qI,lE⟩:=Jj hc;have MU:(Qf f).length<=200:=Qx YF (Jf hc).2.1;obtain⟨cl,yR⟩:∃b,b=Qf f:=⟨_,rfl⟩;rw [<-yR]at kR qI lE MU hl;have tV:=Qq yR;have iM:=Qq kR;have lN:=Qq lE;have pB:=Qq hl;clear h hc kR YF lE yR hl;go_enter Tryz.func56,Tryz.ntmps56;go_wp2_with fail;refine(Fk _ f _ H.out).mono ?_;rintro e w0 ⟨uc,rfl,pL⟩;rw [<-tV.out]at pL;have jY:=Qq pL;obtain⟨Ac,cc,rfl,xU,yP,zN⟩:=Qc pL.fml;obtain⟨ad,rfl,zA,zJ⟩:=zN (by intro e;rw [e]at qI;simp at qI)
 have qU:=Qq zJ;unfold maxLen at yP;clear pL zN zJ;go_wp2_with fail;go_loopw [3,14] (fun vo vi wr=>∃k:Nat,vi=.int .i64 (k:Int)/\k<=cl.length/\Hid (∃out,Gw (cl.take k) []=some out/\out.length=k/\Kq w0 wr vo out)) (fun _ v _=>cl.length - (intOf v).toNat)
 case atStart=>exact⟨0,rfl,Nat.zero_le _,Qq ⟨[],rfl,rfl,Kq.nil _⟩⟩
 case round =>
  obtain⟨k,rfl,hk,zY⟩:=hrel;obtain⟨out,ho,zO,xJ⟩:=zY.out;obtain⟨us,zR,tQ⟩:=xJ.row;obtain⟨Ao,co,rfl⟩:=Qs zR;have HO:=Qq ho;have zC:=Qq zO;have wY:=Qq xJ;have yS:=Qq zR;have mE:=Qq tQ;have tJ:out.length<=1000:=by omega
  clear zY ho xJ zR tQ zO;by_cases hlt2:k < cl.length
  ·have yT:(k:Int) < (cl.length:Int):=by omega
   obtain⟨n,hn⟩:∃n,cl[k]?=some n:=⟨_,Qv hlt2⟩;obtain⟨c0,c1,c2,c3,c4,c5⟩:=(qU.out k n hn).keep fun p hp=>wY.out.ext.cell (p:=p) (by rw [hp,Qt];exact zA)
   have tN:(ad.add (k*6)).block < wr.heap.size:=by rw [Qt];exact Qy zA wY.out.ext.size
   have HN:=Qq hn;have zK:=pB.out n (List.mem_of_getElem? hn);have L1:=Qq (lN.out n (List.mem_of_getElem? hn));have SF:=Qq (iM.out k n hn);have fH:=Qq (show n.ok from jY.out.2.1 n (List.mem_of_getElem? hn));clear hn;obtain⟨wq,vE⟩:∃v,v=wr:=⟨_,rfl⟩;subst vE;have UT:(n.op=1\/n.op=2\/n.op=3)\/(n.op=4\/n.op=9\/n.op=10\/n.op=11)\/(n.op=5\/n.op=6\/n.op=7\/n.op=8\/n.op=13):=by omega
   rcases UT with zK|zK|zK
   ·have LZ:n.op < 4:=by omega
    have mD:=Qq (show(wq.alloc (.cells #[.int .i64 n.op,.int .i64 n.i,.int .i64 n.e,.int .i64 n.g,.int .i64 n.x,.int .i64 n.y] 71)).heap[wq.heap.size]?=some (.cells #[.int .i64 n.op,.int .i64 n.i,.int .i64 n.e,.int .i64 n.g,.int .i64 n.x,.int .i64 n.y] 71 (0,0))from heap_alloc_new _ _);obtain⟨⟨d0,d1,d2,d3,d4,d5⟩,dfr,dlt⟩:=Vs mD.out;go_upto_block 2 with(fail);go_cut [8] (fun s8 wx=>Hid (Yc wq wx s8 (Jl n (out.getD n.x.toNat []) (out.getD n.y.toNat []))))
    case first =>
     rcases zK with zK|zK|zK
     ·have HS:=Qq (show Jl n (out.getD n.x.toNat []) (out.getD n.y.toNat [])=Qq8 by unfold Jl;rw [zK];rfl);obtain⟨t1,t2,t3,t4,t9,t10,t11,t5,t6,t7,t8⟩:=Tf zK;clear zK;go_wp2_with fail;refine(Qn0 _).mono ?_;rintro e w2 ⟨u,rfl,hm⟩;have HM:=Qq (hm.before (Qz.alloc _));clear hm;go_wp2_with fail;go_meet;exact Qq (by rw [HS.out];exact HM.out)
     ·have HS:=Qq (show Jl n (out.getD n.x.toNat []) (out.getD n.y.toNat [])=Oh by unfold Jl;rw [zK];rfl);obtain⟨t1,t2,t3,t4,t9,t10,t11,t5,t6,t7,t8⟩:=Tf zK;clear zK;go_wp2_with fail;refine(Qpt _).mono ?_;rintro e w2 ⟨u,rfl,hm⟩;have HM:=Qq (hm.before (Qz.alloc _));clear hm;go_wp2_with fail;go_meet;exact Qq (by rw [HS.out];exact HM.out)
     have HS:=Qq (show Jl n (out.getD n.x.toNat []) (out.getD n.y.toNat [])=Qk4 n.i by unfold Jl;rw [zK];rfl);obtain⟨t1,t2,t3,t4,t9,t10,t11,t5,t6,t7,t8⟩:=Tf zK;clear zK;go_wp2_with fail;refine(Qaw n.i fH.out.2.1 _).mono ?_;rintro e w2 ⟨u,rfl,hm⟩;have HM:=Qq (hm.before (Qz.alloc _));clear hm;go_wp2_with fail;go_meet;exact Qq (by rw [HS.out];exact HM.out)
    case rest =>
     have HG:=hcut;clear hcut;obtain⟨As8,cs8,rfl,_⟩:=Qc HG.out.fml;have rU:=Qq HG.out.ext;by_cases hz:(Jl n (out.getD n.x.toNat []) (out.getD n.y.toNat [])).length=0
     ·have HE:=Qq (show Ja f= [] by
       unfold Ja;rw [<-tV.out,Ca (k:=k+1) (by rw [Dl HN.out HO.out,decide_eq_true hz];rfl)])
      have sH:(((Jl n (out.getD n.x.toNat []) (out.getD n.y.toNat [])).length:Int)==0)=true:=by rw [hz];rfl
      generalize (Jl n (out.getD n.x.toNat []) (out.getD n.y.toNat [])).length=m8 at hz sH;clear hz;go_wp2_with fail;go_ret;exact⟨_,rfl,by rw [HE.out];exact Mb _,jY.out.ext.trans (wY.out.ext.trans rU.out)⟩
     have sH:(((Jl n (out.getD n.x.toNat []) (out.getD n.y.toNat [])).length:Int)==0)=false:=by rw [beq_eq_false_iff_ne];omega
     have wL:=Qq (show Gw (cl.take (k+1)) []=some (out++ [Jl n (out.getD n.x.toNat []) (out.getD n.y.toNat [])]) by rw [Dl HN.out HO.out,decide_eq_false hz];rfl);clear hz;generalize Jl n (out.getD n.x.toNat []) (out.getD n.y.toNat [])=g8 at HG sH wL;have xS:out.length+1<=maxLen:=by unfold maxLen;omega
     have xR:(out.length+1)*24<=140737488355328:=by omega
     go_wp2_with(at_builtin;refine wpList_append_own_at _ rfl _ _ 32 rfl w0.heap.size 22 iI (.slice none 0 0) 1 24 Tryz.underlying32 pO vO vN vM rfl (by decide) _ out.length us rfl (Zk yS.out (rU.out.alloc _)) ⟨_,0,none⟩ 1 1 [.slice As8 g8.length cs8] rfl rfl (Zt _ _ _ (by simp)) (fun u hu=>by rw [List.mem_singleton.1 hu];rfl) xS xR (Qx wY.out.ext.size (rU.out.alloc _).size) ?_);intro v7 w7 zW zX _ zH;have pV:=Qq (Kq.push (s:=g8) ((wY.out.ext.trans rU.out).alloc _) (Zk yS.out (rU.out.alloc _)) (fun k s hk=>by
      obtain⟨u,a,b,c⟩:=mE.out k s hk;exact⟨u,a,b.ext (rU.out.alloc _),c.ext (rU.out.alloc _)⟩) zW zX (zH.imp id (fun e=>e.trans (by simp))) (HG.out.fml.ext (Qz.alloc _)) (Lg (Nat.le_refl _) (Zk HG.out.1 (Qz.alloc _)) yS.out wY.out.ext.size))
     obtain⟨A7,c7,rfl⟩:=Qs zW;clear zW zX zH;go_wp2_with fail;go_roundw
     case rel=>exact⟨k+1,by go_num,by omega,Qq ⟨_,wL.out,by rw [List.length_append,zC.out];rfl,pV.out⟩⟩
     case measure=>simp [intOf];omega
   ·have LZ:4<=n.op:=by omega
    have hX:0<=n.x/\n.x < k:=SF.out.1 (by rcases zK with e|e|e|e <;> rw [e] <;> rfl);obtain⟨g0,cap0,oD,wQ,yD⟩:=wY.out.slice (by rw [zC.out];omega);injection oD with hsl1 _ wF;subst hsl1 wF;unfold maxLen at yD;obtain⟨j,hj⟩:=Int.eq_ofNat_of_zero_le hX.1;obtain⟨sx,tB⟩:∃s,out[j]?=some s:=⟨_,List.getElem?_eq_getElem (by rw [zC.out];omega)⟩;obtain⟨ux,qB,jN,xP⟩:=wY.out.get tB;have oZ:=Qq (show out.getD n.x.toNat []=sx by rw [hj,Int.toNat_natCast,Qk,tB];rfl);have kA:=Qq jN;obtain⟨Ax,cx,rfl,_⟩:=Qc jN;have mC:(j:Int) < (out.length:Int):=by rw [zC.out];omega
    have YS:=Qq hj;have c4':wq.cell? ⟨(ad.add (k*6)).block,(ad.add (k*6)).off+4,none⟩=some (.int .i64 (j:Int)):=by rw [c4,hj]
    rw [hj]at c4;clear tB jN hX hj c4';have mD:=Qq (show(wq.alloc (.cells #[.int .i64 n.op,.int .i64 n.i,.int .i64 n.e,.int .i64 n.g,.int .i64 (j:Int),.int .i64 n.y] 71)).heap[wq.heap.size]?=some (.cells #[.int .i64 n.op,.int .i64 n.i,.int .i64 n.e,.int .i64 n.g,.int .i64 (j:Int),.int .i64 n.y] 71 (0,0))from heap_alloc_new _ _);obtain⟨⟨d0,d1,d2,d3,d4,d5⟩,dfr,dlt⟩:=Vs mD.out;go_upto_block 2 with(fail);go_cut [8] (fun s8 wx=>Hid (Yc wq wx s8 (Jl n (out.getD n.x.toNat []) (out.getD n.y.toNat []))))
    case first =>
     rcases zK with zK|zK|zK|zK
     ·have HS:=Qq (show Jl n (out.getD n.x.toNat []) (out.getD n.y.toNat [])=Kj (out.getD n.x.toNat []) by unfold Jl;rw [zK];rfl);obtain⟨t1,t2,t3,t4,t9,t10,t11,t5,t6,t7,t8⟩:=Tf zK;clear zK;go_wp2_with fail;refine(Hp _ sx _ (kA.out.ext (Qz.alloc _))).mono ?_;rintro e w2 ⟨u,rfl,hm⟩;have HM:=Qq (hm.before (Qz.alloc _));clear hm;go_wp2_with fail;go_meet;exact Qq (by rw [HS.out,oZ.out];exact HM.out)
     ·have HS:=Qq (show Jl n (out.getD n.x.toNat []) (out.getD n.y.toNat [])=Gp n.i (out.getD n.x.toNat []) by unfold Jl;rw [zK];rfl);obtain⟨t1,t2,t3,t4,t9,t10,t11,t5,t6,t7,t8⟩:=Tf zK;clear zK;go_wp2_with fail;refine(Ml n.i fH.out.2.1 _ sx _ (kA.out.ext (Qz.alloc _))).mono ?_;rintro e w2 ⟨u,rfl,hm⟩;have HM:=Qq (hm.before (Qz.alloc _));clear hm;go_wp2_with fail;go_meet;exact Qq (by rw [HS.out,oZ.out];exact HM.out)
     ·have HS:=Qq (show Jl n (out.getD n.x.toNat []) (out.getD n.y.toNat [])=Kj (Gp n.i (Kj (out.getD n.x.toNat []))) by unfold Jl;rw [zK];rfl);obtain⟨t1,t2,t3,t4,t9,t10,t11,t5,t6,t7,t8⟩:=Tf zK;clear zK;go_upto_region 31 with(fail);have SS:Qg wq (wq.alloc (.cells #[.int .i64 n.op,.int .i64 n.i,.int .i64 n.e,.int .i64 n.g,.int .i64 (j:Int),.int .i64 n.y] 71)):=Qz.alloc _;have fF:=Qq (kA.out.ext SS);obtain⟨W0,zB⟩:∃v,v=wq.alloc (.cells #[.int .i64 n.op,.int .i64 n.i,.int .i64 n.e,.int .i64 n.g,.int .i64 (j:Int),.int .i64 n.y] 71):=⟨_,rfl⟩;rw [<-zB]at d1 dlt SS fF⊢;clear zB d0 d2 d3 d4 d5 c0 c1 c2 c3 c4 c5 dfr mD
      refine wp_region_held_drew (S:=fun w'=>w'.cell? (⟨wq.heap.size,1,none⟩)=some (.int .i64 n.i)) (by kernel_rfl) (xc dlt d1) (fun zZ=> ?_);refine tk 0 zZ ?_;refine tk 1 zZ ?_;refine tk 2 zZ ?_;refine wpAnyH_ready (rs:= [3]) (by kernel_rfl) (by simp) ?_;refine AllReadyH.cons rfl (fun K hK=> ?_) AllReadyH.nil;go_simp;refine(Hp _ sx _ (fF.out.ext xw)).mono ?_;rintro e w2 ⟨u2,rfl,xO⟩;have zT:Qg W0 w2:=Qg.trans xw xO.ext;have vV:=Qq (xO.before (w0:=W0) xw);clear xO;go_wp2_with fail;refine hK.out _ _ (xc dlt d1) (fun zZ=> ?_);clear hK K;refine Qd ?_;refine wpAnyH_ready (rs:= [4]) (by kernel_rfl) (by simp) ?_
      refine AllReadyH.cons rfl (fun K hK=> ?_) AllReadyH.nil;go_simp;refine(Ml n.i fH.out.2.1 _ _ _ (vV.out.fml.ext xw)).mono ?_;rintro e w3 ⟨u3,rfl,jH⟩;have zF:Qg W0 w3:=Qg.trans xw jH.ext;have mY:=Qq (jH.before (w0:=W0) xw);clear jH;go_wp2_with fail;refine hK.out _ _ (xc dlt d1) (fun zZ=> ?_);clear hK K;refine Qd ?_;refine wpAnyH_ready (rs:= [5]) (by kernel_rfl) (by simp) ?_;refine AllReadyH.cons rfl (fun K hK=> ?_) AllReadyH.nil;go_simp;refine(Hp _ _ _ (mY.out.fml.ext xw)).mono ?_;rintro e w4 ⟨u4,rfl,oH⟩;have yE:Qg W0 w4:=Qg.trans xw oH.ext;have fK:=Qq (oH.before (w0:=W0) xw)
      clear oH;go_wp2_with fail;refine hK.out _ _ (xc dlt d1) (fun zZ=> ?_);clear hK K;refine Qd ?_;refine tk 6 zZ ?_;refine wpAnyH_done (by kernel_rfl) ?_ _;go_wp2_with fail;go_meet;exact Qq (by rw [HS.out,oZ.out];exact fK.out.before SS)
     have HS:=Qq (show Jl n (out.getD n.x.toNat []) (out.getD n.y.toNat [])=Qvk (Om n.g (out.getD n.x.toNat [])) by unfold Jl;rw [zK];rfl);obtain⟨t1,t2,t3,t4,t9,t10,t11,t5,t6,t7,t8⟩:=Tf zK;have SS:Qg wq (wq.alloc (.cells #[.int .i64 n.op,.int .i64 n.i,.int .i64 n.e,.int .i64 n.g,.int .i64 (j:Int),.int .i64 n.y] 71)):=Qz.alloc _;have fF:=Qq (kA.out.ext SS);have jM:=Qvw L1.out (.inl zK);obtain⟨gn,wC⟩:=Int.eq_ofNat_of_zero_le jM.1;have UM:gn < 16:=by omega
     have nB:=Qq wC;obtain⟨W0,zB⟩:∃v,v=wq.alloc (.cells #[.int .i64 n.op,.int .i64 n.i,.int .i64 n.e,.int .i64 n.g,.int .i64 (j:Int),.int .i64 n.y] 71):=⟨_,rfl⟩;rw [<-zB]at d0 d1 d2 d3 d4 d5 dlt dfr SS fF mD⊢;have d3':W0.cell? ⟨wq.heap.size,3,none⟩=some (.int .i64 (gn:Int)):=by rw [d3,wC]
     clear zB jM wC zK d1 d2 d3 d4 d5 c0 c1 c2 c3 c4 c5 dfr mD;have D3:=Qq d3';clear d3';go_wp2_with fail;go_loopw [9,91] (fun vo vi wr=>∃q:Nat,vi=.int .i64 (q:Int)/\q<=4/\Hid (∃ol,ol=((List.range q).filter fun i=>Vz (gn:Int) i).map (fun(i:Nat)=>Gp (i:Int) sx)/\Kq W0 wr vo ol)) (fun _ v _=>4 - (intOf v).toNat)
     case atStart=>exact⟨0,rfl,Nat.zero_le _,Qq ⟨[],rfl,Kq.nil _⟩⟩
     case round =>
      obtain⟨q,rfl,hq,zY⟩:=hrel;obtain⟨ol,TU,xJ⟩:=zY.out;obtain⟨us2,sP,dD⟩:=xJ.row;obtain⟨Ao2,co2,rfl⟩:=Qs sP;have qC:=Qq TU;have wN:=Qq xJ;have wM:=Qq sP;have VT:=Qq dD;have P8:ol.length<=4:=by rw [TU];refine Qx (by rw [List.length_map];exact List.length_filter_le _ _) (by simp;omega)
      clear zY TU xJ sP dD;have dl3:=(wN.out.ext.cell (p:=⟨wq.heap.size,3,none⟩) dlt).trans D3.out;have DV:wq.heap.size < wr.heap.size:=Qy dlt wN.out.ext.size;by_cases RQ:q < 4
      ·have LU:(q:Int) < 4:=by omega
       have tM:=Cd gn q (by omega);cases uC:gn.testBit q
       case true =>
        rw [uC]at tM;have lP:=Qq (show((List.range (q+1)).filter fun i=>Vz (gn:Int) i).map (fun(i:Nat)=>Gp (i:Int) sx)=ol++ [Gp (q:Int) sx] by rw [List.range_succ,List.filter_append,List.map_append,<-qC.out,List.filter_cons,show Vz (gn:Int) q=true from uC];rfl);clear uC;go_wp2_with fail;refine(Ml (q:Int) ⟨by omega,by omega⟩ _ sx _ (fF.out.ext wN.out.ext)).mono ?_;rintro e w2 ⟨u,rfl,hm⟩;have HM:=Qq hm;have Y1:=Qq hm.ext;obtain⟨Au,cu,rfl,_⟩:=Qc hm.fml;clear hm;have xS:ol.length+1<=maxLen:=by unfold maxLen;omega
        have xR:(ol.length+1)*24<=140737488355328:=by omega
        go_wp2_with(at_builtin;refine wpList_append_own_at _ rfl _ _ 32 rfl W0.heap.size 22 iI (.slice none 0 0) 1 24 Tryz.underlying32 pO vO vN vM rfl (by decide) _ ol.length us2 rfl (Zk wM.out (Y1.out.alloc _)) ⟨_,0,none⟩ 1 1 [.slice Au (Gp (q:Int) sx).length cu] rfl rfl (Zt _ _ _ (by simp)) (fun u hu=>by rw [List.mem_singleton.1 hu];rfl) xS xR (Qx wN.out.ext.size (Y1.out.alloc _).size) ?_);intro v7 w7 zW zX _ zH;have pV:=Qq (Kq.push (s:=Gp (q:Int) sx) ((wN.out.ext.trans Y1.out).alloc _) (Zk wM.out (Y1.out.alloc _)) (fun k s hk=>by
         obtain⟨u,a,b,c⟩:=VT.out k s hk;exact⟨u,a,b.ext (Y1.out.alloc _),c.ext (Y1.out.alloc _)⟩) zW zX (zH.imp id (fun e=>e.trans (by simp))) (HM.out.fml.ext (Qz.alloc _)) (Lg (Nat.le_refl _) (Zk HM.out.1 (Qz.alloc _)) wM.out wN.out.ext.size))
        obtain⟨A7,c7,rfl⟩:=Qs zW;clear zW zX zH;go_wp2_with fail;go_roundw
        case rel=>exact⟨q+1,by go_num,by omega,Qq ⟨_,lP.out.symm,pV.out⟩⟩
        case measure=>simp [intOf];omega
       case false =>
        rw [uC]at tM;have lP:=Qq (show((List.range (q+1)).filter fun i=>Vz (gn:Int) i).map (fun(i:Nat)=>Gp (i:Int) sx)=ol by rw [List.range_succ,List.filter_append,List.map_append,<-qC.out,List.filter_cons,show Vz (gn:Int) q=false from uC];exact List.append_nil _);clear uC;go_wp2_with fail;go_roundw
        case rel=>exact⟨q+1,by go_num,by omega,Qq ⟨_,lP.out.symm,wN.out⟩⟩
        case measure=>simp [intOf];omega
      obtain rfl:4=q:=by omega
      go_wp2_with fail;refine(Qom _ ol _ wN.out.fmls).mono ?_;rintro e w2 ⟨u2,rfl,xO⟩;have vV:=Qq xO;clear xO;go_wp2_with fail;go_meet;exact Qq (by rw [HS.out,oZ.out,Om,nB.out,show((List.range 4).filter fun i=>Vz (gn:Int) i).map (fun(i:Nat)=>Gp (i:Int) sx)=ol from qC.out.symm];exact vV.out.before (SS.trans wN.out.ext))
    case rest =>
     have HG:=hcut;clear hcut;obtain⟨As8,cs8,rfl,_⟩:=Qc HG.out.fml;have rU:=Qq HG.out.ext;by_cases hz:(Jl n (out.getD n.x.toNat []) (out.getD n.y.toNat [])).length=0
     ·have HE:=Qq (show Ja f= [] by
       unfold Ja;rw [<-tV.out,Ca (k:=k+1) (by rw [Dl HN.out HO.out,decide_eq_true hz];rfl)])
      have sH:(((Jl n (out.getD n.x.toNat []) (out.getD n.y.toNat [])).length:Int)==0)=true:=by rw [hz];rfl
      generalize (Jl n (out.getD n.x.toNat []) (out.getD n.y.toNat [])).length=m8 at hz sH;clear hz;go_wp2_with fail;go_ret;exact⟨_,rfl,by rw [HE.out];exact Mb _,jY.out.ext.trans (wY.out.ext.trans rU.out)⟩
     have sH:(((Jl n (out.getD n.x.toNat []) (out.getD n.y.toNat [])).length:Int)==0)=false:=by rw [beq_eq_false_iff_ne];omega
     have wL:=Qq (show Gw (cl.take (k+1)) []=some (out++ [Jl n (out.getD n.x.toNat []) (out.getD n.y.toNat [])]) by rw [Dl HN.out HO.out,decide_eq_false hz];rfl);clear hz;generalize Jl n (out.getD n.x.toNat []) (out.getD n.y.toNat [])=g8 at HG sH wL;have xS:out.length+1<=maxLen:=by unfold maxLen;omega
     have xR:(out.length+1)*24<=140737488355328:=by omega
     go_wp2_with(at_builtin;refine wpList_append_own_at _ rfl _ _ 32 rfl w0.heap.size 22 iI (.slice none 0 0) 1 24 Tryz.underlying32 pO vO vN vM rfl (by decide) _ out.length us rfl (Zk yS.out (rU.out.alloc _)) ⟨_,0,none⟩ 1 1 [.slice As8 g8.length cs8] rfl rfl (Zt _ _ _ (by simp)) (fun u hu=>by rw [List.mem_singleton.1 hu];rfl) xS xR (Qx wY.out.ext.size (rU.out.alloc _).size) ?_);intro v7 w7 zW zX _ zH;have pV:=Qq (Kq.push (s:=g8) ((wY.out.ext.trans rU.out).alloc _) (Zk yS.out (rU.out.alloc _)) (fun k s hk=>by
      obtain⟨u,a,b,c⟩:=mE.out k s hk;exact⟨u,a,b.ext (rU.out.alloc _),c.ext (rU.out.alloc _)⟩) zW zX (zH.imp id (fun e=>e.trans (by simp))) (HG.out.fml.ext (Qz.alloc _)) (Lg (Nat.le_refl _) (Zk HG.out.1 (Qz.alloc _)) yS.out wY.out.ext.size))
     obtain⟨A7,c7,rfl⟩:=Qs zW;clear zW zX zH;go_wp2_with fail;go_roundw
     case rel=>exact⟨k+1,by go_num,by omega,Qq ⟨_,wL.out,by rw [List.length_append,zC.out];rfl,pV.out⟩⟩
     case measure=>simp [intOf];omega
   have LZ:4<=n.op:=by omega
   have hX:0<=n.x/\n.x < k:=SF.out.1 (by rcases zK with e|e|e|e|e <;> rw [e] <;> rfl);obtain⟨g0,cap0,oD,wQ,yD⟩:=wY.out.slice (by rw [zC.out];omega);injection oD with hsl1 _ wF;subst hsl1 wF;unfold maxLen at yD;obtain⟨j,hj⟩:=Int.eq_ofNat_of_zero_le hX.1;obtain⟨sx,tB⟩:∃s,out[j]?=some s:=⟨_,List.getElem?_eq_getElem (by rw [zC.out];omega)⟩;obtain⟨ux,qB,jN,xP⟩:=wY.out.get tB;have oZ:=Qq (show out.getD n.x.toNat []=sx by rw [hj,Int.toNat_natCast,Qk,tB];rfl);have kA:=Qq jN;obtain⟨Ax,cx,rfl,_⟩:=Qc jN;have mC:(j:Int) < (out.length:Int):=by rw [zC.out];omega
   have YS:=Qq hj;have c4':wq.cell? ⟨(ad.add (k*6)).block,(ad.add (k*6)).off+4,none⟩=some (.int .i64 (j:Int)):=by rw [c4,hj]
   have hY:0<=n.y/\n.y < k:=SF.out.2 (by rcases zK with e|e|e|e|e <;> rw [e] <;> rfl);obtain⟨j2,iF⟩:=Int.eq_ofNat_of_zero_le hY.1;obtain⟨sy,TB⟩:∃s,out[j2]?=some s:=⟨_,List.getElem?_eq_getElem (by rw [zC.out];omega)⟩;obtain⟨uy,sN,UN,_⟩:=wY.out.get TB;have aT:=Qq (show out.getD n.y.toNat []=sy by rw [iF,Int.toNat_natCast,Qk,TB];rfl);have gY:=Qq UN;obtain⟨Ay,cy,rfl,_⟩:=Qc UN;have DD:(j2:Int) < (out.length:Int):=by rw [zC.out];omega
   rw [iF]at c5;clear TB UN hY iF;rw [hj]at c4;clear tB jN hX hj c4';have mD:=Qq (show(wq.alloc (.cells #[.int .i64 n.op,.int .i64 n.i,.int .i64 n.e,.int .i64 n.g,.int .i64 (j:Int),.int .i64 (j2:Int)] 71)).heap[wq.heap.size]?=some (.cells #[.int .i64 n.op,.int .i64 n.i,.int .i64 n.e,.int .i64 n.g,.int .i64 (j:Int),.int .i64 (j2:Int)] 71 (0,0))from heap_alloc_new _ _);obtain⟨⟨d0,d1,d2,d3,d4,d5⟩,dfr,dlt⟩:=Vs mD.out;go_upto_block 2 with(fail);go_cut [8] (fun s8 wx=>Hid (Yc wq wx s8 (Jl n (out.getD n.x.toNat []) (out.getD n.y.toNat []))))
   case first =>
    rcases zK with zK|zK|zK|zK|zK
    ·have HS:=Qq (show Jl n (out.getD n.x.toNat []) (out.getD n.y.toNat [])=Bf (out.getD n.x.toNat []) (out.getD n.y.toNat []) by unfold Jl;rw [zK];rfl);obtain⟨t1,t2,t3,t4,t9,t10,t11,t5,t6,t7,t8⟩:=Tf zK;clear zK;go_wp2_with fail;refine(Qj0 _ _ sx sy _ (kA.out.ext (Qz.alloc _)) (gY.out.ext (Qz.alloc _))).mono ?_;rintro e w2 ⟨u,rfl,hm⟩;have HM:=Qq (hm.before (Qz.alloc _));clear hm;go_wp2_with fail;go_meet;exact Qq (by rw [HS.out,oZ.out,aT.out];exact HM.out)
    ·have HS:=Qq (show Jl n (out.getD n.x.toNat []) (out.getD n.y.toNat [])=orN (out.getD n.x.toNat []) (out.getD n.y.toNat []) by unfold Jl;rw [zK];rfl);obtain⟨t1,t2,t3,t4,t9,t10,t11,t5,t6,t7,t8⟩:=Tf zK;clear zK;go_wp2_with fail;refine(Zjp _ _ sx sy _ (kA.out.ext (Qz.alloc _)) (gY.out.ext (Qz.alloc _))).mono ?_;rintro e w2 ⟨u,rfl,hm⟩;have HM:=Qq (hm.before (Qz.alloc _));clear hm;go_wp2_with fail;go_meet;exact Qq (by rw [HS.out,oZ.out,aT.out];exact HM.out)
    ·have HS:=Qq (show Jl n (out.getD n.x.toNat []) (out.getD n.y.toNat [])=Qvi (out.getD n.x.toNat []) (out.getD n.y.toNat []) by unfold Jl;rw [zK];rfl);obtain⟨t1,t2,t3,t4,t9,t10,t11,t5,t6,t7,t8⟩:=Tf zK;clear zK;go_wp2_with fail;refine(Qgy _ _ sx sy _ (kA.out.ext (Qz.alloc _)) (gY.out.ext (Qz.alloc _))).mono ?_;rintro e w2 ⟨u,rfl,hm⟩;have HM:=Qq (hm.before (Qz.alloc _));clear hm;go_wp2_with fail;go_meet;exact Qq (by rw [HS.out,oZ.out,aT.out];exact HM.out)
    ·have HS:=Qq (show Jl n (out.getD n.x.toNat []) (out.getD n.y.toNat [])=Qeb (out.getD n.x.toNat []) (out.getD n.y.toNat []) by unfold Jl;rw [zK];rfl);obtain⟨t1,t2,t3,t4,t9,t10,t11,t5,t6,t7,t8⟩:=Tf zK;clear zK;go_wp2_with fail;refine(Qai _ _ sx sy _ (kA.out.ext (Qz.alloc _)) (gY.out.ext (Qz.alloc _))).mono ?_;rintro e w2 ⟨u,rfl,hm⟩;have HM:=Qq (hm.before (Qz.alloc _));clear hm;go_wp2_with fail;go_meet;exact Qq (by rw [HS.out,oZ.out,aT.out];exact HM.out)
    have HS:=Qq (show Jl n (out.getD n.x.toNat []) (out.getD n.y.toNat [])=Qx6 n.g (out.getD n.x.toNat []) (out.getD n.y.toNat []) by unfold Jl;rw [zK];rfl);obtain⟨t1,t2,t3,t4,t9,t10,t11,t5,t6,t7,t8⟩:=Tf zK;clear zK;go_wp2_with fail;refine(Qti n.g fH.out.2.2.2.1 _ _ sx sy _ (kA.out.ext (Qz.alloc _)) (gY.out.ext (Qz.alloc _))).mono ?_;rintro e w2 ⟨u,rfl,hm⟩;have HM:=Qq (hm.before (Qz.alloc _));clear hm;go_wp2_with fail;go_meet;exact Qq (by rw [HS.out,oZ.out,aT.out];exact HM.out)
   case rest =>
    have HG:=hcut;clear hcut;obtain⟨As8,cs8,rfl,_⟩:=Qc HG.out.fml;have rU:=Qq HG.out.ext;by_cases hz:(Jl n (out.getD n.x.toNat []) (out.getD n.y.toNat [])).length=0
    ·have HE:=Qq (show Ja f= [] by
      unfold Ja;rw [<-tV.out,Ca (k:=k+1) (by rw [Dl HN.out HO.out,decide_eq_true hz];rfl)])
     have sH:(((Jl n (out.getD n.x.toNat []) (out.getD n.y.toNat [])).length:Int)==0)=true:=by rw [hz];rfl
     generalize (Jl n (out.getD n.x.toNat []) (out.getD n.y.toNat [])).length=m8 at hz sH;clear hz;go_wp2_with fail;go_ret;exact⟨_,rfl,by rw [HE.out];exact Mb _,jY.out.ext.trans (wY.out.ext.trans rU.out)⟩
    have sH:(((Jl n (out.getD n.x.toNat []) (out.getD n.y.toNat [])).length:Int)==0)=false:=by rw [beq_eq_false_iff_ne];omega
    have wL:=Qq (show Gw (cl.take (k+1)) []=some (out++ [Jl n (out.getD n.x.toNat []) (out.getD n.y.toNat [])]) by rw [Dl HN.out HO.out,decide_eq_false hz];rfl);clear hz;generalize Jl n (out.getD n.x.toNat []) (out.getD n.y.toNat [])=g8 at HG sH wL;have xS:out.length+1<=maxLen:=by unfold maxLen;omega
    have xR:(out.length+1)*24<=140737488355328:=by omega
    go_wp2_with(at_builtin;refine wpList_append_own_at _ rfl _ _ 32 rfl w0.heap.size 22 iI (.slice none 0 0) 1 24 Tryz.underlying32 pO vO vN vM rfl (by decide) _ out.length us rfl (Zk yS.out (rU.out.alloc _)) ⟨_,0,none⟩ 1 1 [.slice As8 g8.length cs8] rfl rfl (Zt _ _ _ (by simp)) (fun u hu=>by rw [List.mem_singleton.1 hu];rfl) xS xR (Qx wY.out.ext.size (rU.out.alloc _).size) ?_);intro v7 w7 zW zX _ zH;have pV:=Qq (Kq.push (s:=g8) ((wY.out.ext.trans rU.out).alloc _) (Zk yS.out (rU.out.alloc _)) (fun k s hk=>by
     obtain⟨u,a,b,c⟩:=mE.out k s hk;exact⟨u,a,b.ext (rU.out.alloc _),c.ext (rU.out.alloc _)⟩) zW zX (zH.imp id (fun e=>e.trans (by simp))) (HG.out.fml.ext (Qz.alloc _)) (Lg (Nat.le_refl _) (Zk HG.out.1 (Qz.alloc _)) yS.out wY.out.ext.size))
    obtain⟨A7,c7,rfl⟩:=Qs zW;clear zW zX zH;go_wp2_with fail;go_roundw
    case rel=>exact⟨k+1,by go_num,by omega,Qq ⟨_,wL.out,by rw [List.length_append,zC.out];rfl,pV.out⟩⟩
    case measure=>simp [intOf];omega
  obtain rfl:cl.length=k:=by omega
  obtain⟨g0,cap0,oD,wQ,yD⟩:=wY.out.slice (by rw [zC.out];omega);injection oD with hsl1 _ wF;subst hsl1 wF;unfold maxLen at yD;obtain⟨sx,tB⟩:∃s,out[out.length - 1]?=some s:=⟨_,List.getElem?_eq_getElem (by rw [zC.out];omega)⟩;obtain⟨ux,qB,jN,xP⟩:=wY.out.get tB;have kA:=Qq jN;have oZ:=Qq (show Ja f=sx by
   have h1:=HO.out;rw [List.take_of_length_le (Nat.le_refl _)]at h1;unfold Ja;rw [<-tV.out,h1];show out.getLastD []=sx;rw [List.getLastD_eq_getLast?,List.getLast?_eq_getElem?,tB]
   rfl)
  have iG:((out.length:Int) - 1) < (out.length:Int):=by omega
  have jL:(0:Int)<=(out.length:Int) - 1:=by rw [zC.out];omega
  have e1:((out.length:Int) - 1).toNat=out.length - 1:=by omega
  clear tB jN;go_wp2_with fail;go_ret;exact⟨ux,rfl,by rw [oZ.out];exact kA.out,jY.out.ext.trans wY.out.ext⟩
end Go.Proofs.YtkmclcmnoicagaaGreatDoor
