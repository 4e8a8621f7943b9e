/- types' expand: the walk. -/
import Derived.Test.YtkmclcmnoicagaaGreatDoorK24
namespace Go.Proofs.YtkmclcmnoicagaaGreatDoor
set_option maxRecDepth 100000
set_option maxHeartbeats 128000000
open Go.RowKit
theorem Ok(v:Value)(f:List Nd)(w:World)(h:Fml w v f)(hc:check f=0)(hl:∀n∈Qg f,(1<=n.op/\n.op<=11)\/n.op=13):
 Calls Tryz.prog 56 #[v] w fun e w'=>∃u,e=.returned u/\Fml w' u (Jo f)/\Ext w w':=by
 have H:=Qq h;obtain⟨iI,pK,vO,vN,vM⟩:=info_parts Qx4;obtain⟨A,c,rfl,_⟩:=Qh h;obtain⟨lQ,YA,qH,kV⟩:=Jf hc;have MV:(Qg f).length<=200:=Qx YA (Jg hc).2.1;obtain⟨cl,yS⟩:∃b,b=Qg f:=⟨_,rfl⟩;rw [<-yS]at lQ qH kV MV hl;have tX:=Qq yS;have iN:=Qq lQ;have lE:=Qq kV;have mC:=Qq hl;clear h hc lQ YA kV yS hl;go_enter Tryz.func56,Tryz.ntmps56;go_wp2_with fail;refine(Fv _ f _ H.out).mono ?_;rintro e w0 ⟨uc,rfl,pI⟩;rw [<-tX.out]at pI;have jW:=Qq pI;obtain⟨Ac,cc,rfl,xR,yO,zM⟩:=Qh pI.fml;obtain⟨ad,rfl,yZ,zJ⟩:=zM (by intro e;rw [e]at qH;simp at qH)
 have qW:=Qq zJ;unfold maxLen at yO;clear pI zM zJ;go_wp2_with fail;go_loopw [3,14] (fun vo vi wr=>∃k:Nat,vi=.int .i64 (k:Int)/\k<=cl.length/\Hid (∃out,Uq (cl.take k) []=some out/\out.length=k/\Vo w0 wr vo out)) (fun _ v _=>cl.length - (intOf v).toNat)
 case atStart=>exact⟨0,rfl,Nat.zero_le _,Qq ⟨[],rfl,rfl,Vo.nil _⟩⟩
 case round =>
  obtain⟨k,rfl,hk,zY⟩:=hrel;obtain⟨out,ho,zO,yF⟩:=zY.out;obtain⟨us,zP,sR⟩:=yF.row;obtain⟨Ao,co,rfl⟩:=Qs zP;have HO:=Qq ho;have zD:=Qq zO;have wS:=Qq yF;have yJ:=Qq zP;have jO:=Qq sR;have tG:out.length<=1000:=by omega
  clear zY ho yF zP sR zO;by_cases hlt2:k < cl.length
  ·have yP:(k:Int) < (cl.length:Int):=by omega
   obtain⟨n,hn⟩:∃n,cl[k]?=some n:=⟨_,Qv hlt2⟩;obtain⟨c0,c1,c2,c3,c4,c5⟩:=(qW.out k n hn).keep fun p hp=>wS.out.ext.cell (p:=p) (by rw [hp,Qr];exact yZ)
   have tQ:(ad.add (k*6)).block < wr.heap.size:=by rw [Qr];exact Qy yZ wS.out.ext.size
   have HN:=Qq hn;have zV:=mC.out n (List.mem_of_getElem? hn);have M4:=Qq (lE.out n (List.mem_of_getElem? hn));have SC:=Qq (iN.out k n hn);have fO:=Qq (show n.ok from jW.out.2.1 n (List.mem_of_getElem? hn));clear hn;obtain⟨wq,vD⟩:∃v,v=wr:=⟨_,rfl⟩;subst vD;have UR:(n.op=1\/n.op=2\/n.op=3)\/(n.op=4\/n.op=9\/n.op=10\/n.op=11)\/(n.op=5\/n.op=6\/n.op=7\/n.op=8\/n.op=13):=by omega
   rcases UR with zV|zV|zV
   ·have LZ:n.op < 4:=by omega
    have lY:=Qq (show(wq.alloc (.cells #[.int .i64 n.op,.int .i64 n.i,.int .i64 n.e,.int .i64 n.g,.int .i64 n.x,.int .i64 n.y] 71)).heap[wq.heap.size]?=some (.cells #[.int .i64 n.op,.int .i64 n.i,.int .i64 n.e,.int .i64 n.g,.int .i64 n.x,.int .i64 n.y] 71 (0,0))from heap_alloc_new _ _);obtain⟨⟨d0,d1,d2,d3,d4,d5⟩,dfr,dlt⟩:=Vm lY.out;go_upto_block 2 with(fail);go_cut [8] (fun s8 wx=>Hid (Yo wq wx s8 (Jp n (out.getD n.x.toNat []) (out.getD n.y.toNat []))))
    case first =>
     rcases zV with zV|zV|zV
     ·have HS:=Qq (show Jp n (out.getD n.x.toNat []) (out.getD n.y.toNat [])=Im by unfold Jp;rw [zV];rfl);have t1:(n.op==1)=true:=by rw [zV];rfl
      have t2:(n.op==2)=false:=by rw [zV];rfl
      have t3:(n.op==3)=false:=by rw [zV];rfl
      have t4:(n.op==4)=false:=by rw [zV];rfl
      have t9:(n.op==9)=false:=by rw [zV];rfl
      have t10:(n.op==10)=false:=by rw [zV];rfl
      have t11:(n.op==11)=false:=by rw [zV];rfl
      have t5:(n.op==5)=false:=by rw [zV];rfl
      have t6:(n.op==6)=false:=by rw [zV];rfl
      have t7:(n.op==7)=false:=by rw [zV];rfl
      have t8:(n.op==8)=false:=by rw [zV];rfl
      clear zV;go_wp2_with fail;refine(Qny _).mono ?_;rintro e w2 ⟨u,rfl,hm⟩;have HM:=Qq (hm.before (Qz.alloc _));clear hm;go_wp2_with fail;go_meet;exact Qq (by rw [HS.out];exact HM.out)
     ·have HS:=Qq (show Jp n (out.getD n.x.toNat []) (out.getD n.y.toNat [])=Wv by unfold Jp;rw [zV];rfl);have t1:(n.op==1)=false:=by rw [zV];rfl
      have t2:(n.op==2)=true:=by rw [zV];rfl
      have t3:(n.op==3)=false:=by rw [zV];rfl
      have t4:(n.op==4)=false:=by rw [zV];rfl
      have t9:(n.op==9)=false:=by rw [zV];rfl
      have t10:(n.op==10)=false:=by rw [zV];rfl
      have t11:(n.op==11)=false:=by rw [zV];rfl
      have t5:(n.op==5)=false:=by rw [zV];rfl
      have t6:(n.op==6)=false:=by rw [zV];rfl
      have t7:(n.op==7)=false:=by rw [zV];rfl
      have t8:(n.op==8)=false:=by rw [zV];rfl
      clear zV;go_wp2_with fail;refine(Qm1 _).mono ?_;rintro e w2 ⟨u,rfl,hm⟩;have HM:=Qq (hm.before (Qz.alloc _));clear hm;go_wp2_with fail;go_meet;exact Qq (by rw [HS.out];exact HM.out)
     have HS:=Qq (show Jp n (out.getD n.x.toNat []) (out.getD n.y.toNat [])=Qkb n.i by unfold Jp;rw [zV];rfl);have t1:(n.op==1)=false:=by rw [zV];rfl
     have t2:(n.op==2)=false:=by rw [zV];rfl
     have t3:(n.op==3)=true:=by rw [zV];rfl
     have t4:(n.op==4)=false:=by rw [zV];rfl
     have t9:(n.op==9)=false:=by rw [zV];rfl
     have t10:(n.op==10)=false:=by rw [zV];rfl
     have t11:(n.op==11)=false:=by rw [zV];rfl
     have t5:(n.op==5)=false:=by rw [zV];rfl
     have t6:(n.op==6)=false:=by rw [zV];rfl
     have t7:(n.op==7)=false:=by rw [zV];rfl
     have t8:(n.op==8)=false:=by rw [zV];rfl
     clear zV;go_wp2_with fail;refine(Qaq n.i fO.out.2.1 _).mono ?_;rintro e w2 ⟨u,rfl,hm⟩;have HM:=Qq (hm.before (Qz.alloc _));clear hm;go_wp2_with fail;go_meet;exact Qq (by rw [HS.out];exact HM.out)
    case rest =>
     have HG:=hcut;clear hcut;obtain⟨As8,cs8,rfl,_⟩:=Qh HG.out.fml;have rR:=Qq HG.out.ext;by_cases hz:(Jp n (out.getD n.x.toNat []) (out.getD n.y.toNat [])).length=0
     ·have HE:=Qq (show Jo f= [] by
       unfold Jo;rw [<-tX.out,Pg (k:=k+1) (by rw [Bw HN.out HO.out,decide_eq_true hz];rfl)])
      have sJ:(((Jp n (out.getD n.x.toNat []) (out.getD n.y.toNat [])).length:Int)==0)=true:=by rw [hz];rfl
      generalize (Jp n (out.getD n.x.toNat []) (out.getD n.y.toNat [])).length=m8 at hz sJ;clear hz;go_wp2_with fail;go_ret;exact⟨_,rfl,by rw [HE.out];exact Lg _,jW.out.ext.trans (wS.out.ext.trans rR.out)⟩
     have sJ:(((Jp n (out.getD n.x.toNat []) (out.getD n.y.toNat [])).length:Int)==0)=false:=by rw [beq_eq_false_iff_ne];omega
     have wG:=Qq (show Uq (cl.take (k+1)) []=some (out++ [Jp n (out.getD n.x.toNat []) (out.getD n.y.toNat [])]) by rw [Bw HN.out HO.out,decide_eq_false hz];rfl);clear hz;generalize Jp n (out.getD n.x.toNat []) (out.getD n.y.toNat [])=g8 at HG sJ wG;have xN:out.length+1<=maxLen:=by unfold maxLen;omega
     have xJ:(out.length+1)*24<=140737488355328:=by omega
     go_wp2_with(at_builtin;refine wpList_append_own_at _ rfl _ _ 32 rfl w0.heap.size 22 iI (.slice none 0 0) 1 24 Tryz.underlying32 pK vO vN vM rfl (by decide) _ out.length us rfl (Zf yJ.out (rR.out.alloc _)) ⟨_,0,none⟩ 1 1 [.slice As8 g8.length cs8] rfl rfl (Zm _ _ _ (by simp)) (fun u hu=>by rw [List.mem_singleton.1 hu];rfl) xN xJ (Qx wS.out.ext.size (rR.out.alloc _).size) ?_);intro v7 w7 zW zX _ zF;have pP:=Qq (Vo.push (s:=g8) ((wS.out.ext.trans rR.out).alloc _) (Zf yJ.out (rR.out.alloc _)) (fun k s hk=>by
      obtain⟨u,a,b,c⟩:=jO.out k s hk;exact⟨u,a,b.ext (rR.out.alloc _),c.ext (rR.out.alloc _)⟩) zW zX (zF.imp id (fun e=>e.trans (by simp))) (HG.out.fml.ext (Qz.alloc _)) (Tv (Nat.le_refl _) (Zf HG.out.1 (Qz.alloc _)) yJ.out wS.out.ext.size))
     obtain⟨A7,c7,rfl⟩:=Qs zW;clear zW zX zF;go_wp2_with fail;go_roundw
     case rel=>exact⟨k+1,by go_num,by omega,Qq ⟨_,wG.out,by rw [List.length_append,zD.out];rfl,pP.out⟩⟩
     case measure=>simp [intOf];omega
   ·have LZ:4<=n.op:=by omega
    have hX:0<=n.x/\n.x < k:=SC.out.1 (by rcases zV with e|e|e|e <;> rw [e] <;> rfl);obtain⟨g0,cap0,nZ,wB,xP⟩:=wS.out.slice (by rw [zD.out];omega);injection nZ with hsl1 _ wA;subst hsl1 wA;unfold maxLen at xP;obtain⟨j,hj⟩:=Int.eq_ofNat_of_zero_le hX.1;obtain⟨sx,tD⟩:∃s,out[j]?=some s:=⟨_,List.getElem?_eq_getElem (by rw [zD.out];omega)⟩;obtain⟨ux,pU,jK,xO⟩:=wS.out.get tD;have oX:=Qq (show out.getD n.x.toNat []=sx by rw [hj,Int.toNat_natCast,Qk,tD];rfl);have jX:=Qq jK;obtain⟨Ax,cx,rfl,_⟩:=Qh jK;have lX:(j:Int) < (out.length:Int):=by rw [zD.out];omega
    have cT:=Qq hj;have c4':wq.cell? ⟨(ad.add (k*6)).block,(ad.add (k*6)).off+4,none⟩=some (.int .i64 (j:Int)):=by rw [c4,hj]
    rw [hj]at c4;clear tD jK hX hj c4';have lY:=Qq (show(wq.alloc (.cells #[.int .i64 n.op,.int .i64 n.i,.int .i64 n.e,.int .i64 n.g,.int .i64 (j:Int),.int .i64 n.y] 71)).heap[wq.heap.size]?=some (.cells #[.int .i64 n.op,.int .i64 n.i,.int .i64 n.e,.int .i64 n.g,.int .i64 (j:Int),.int .i64 n.y] 71 (0,0))from heap_alloc_new _ _);obtain⟨⟨d0,d1,d2,d3,d4,d5⟩,dfr,dlt⟩:=Vm lY.out;go_upto_block 2 with(fail);go_cut [8] (fun s8 wx=>Hid (Yo wq wx s8 (Jp n (out.getD n.x.toNat []) (out.getD n.y.toNat []))))
    case first =>
     rcases zV with zV|zV|zV|zV
     ·have HS:=Qq (show Jp n (out.getD n.x.toNat []) (out.getD n.y.toNat [])=Kq (out.getD n.x.toNat []) by unfold Jp;rw [zV];rfl);have t1:(n.op==1)=false:=by rw [zV];rfl
      have t2:(n.op==2)=false:=by rw [zV];rfl
      have t3:(n.op==3)=false:=by rw [zV];rfl
      have t4:(n.op==4)=true:=by rw [zV];rfl
      have t9:(n.op==9)=false:=by rw [zV];rfl
      have t10:(n.op==10)=false:=by rw [zV];rfl
      have t11:(n.op==11)=false:=by rw [zV];rfl
      have t5:(n.op==5)=false:=by rw [zV];rfl
      have t6:(n.op==6)=false:=by rw [zV];rfl
      have t7:(n.op==7)=false:=by rw [zV];rfl
      have t8:(n.op==8)=false:=by rw [zV];rfl
      clear zV;go_wp2_with fail;refine(Cy _ sx _ (jX.out.ext (Qz.alloc _))).mono ?_;rintro e w2 ⟨u,rfl,hm⟩;have HM:=Qq (hm.before (Qz.alloc _));clear hm;go_wp2_with fail;go_meet;exact Qq (by rw [HS.out,oX.out];exact HM.out)
     ·have HS:=Qq (show Jp n (out.getD n.x.toNat []) (out.getD n.y.toNat [])=Gc n.i (out.getD n.x.toNat []) by unfold Jp;rw [zV];rfl);have t1:(n.op==1)=false:=by rw [zV];rfl
      have t2:(n.op==2)=false:=by rw [zV];rfl
      have t3:(n.op==3)=false:=by rw [zV];rfl
      have t4:(n.op==4)=false:=by rw [zV];rfl
      have t9:(n.op==9)=true:=by rw [zV];rfl
      have t10:(n.op==10)=false:=by rw [zV];rfl
      have t11:(n.op==11)=false:=by rw [zV];rfl
      have t5:(n.op==5)=false:=by rw [zV];rfl
      have t6:(n.op==6)=false:=by rw [zV];rfl
      have t7:(n.op==7)=false:=by rw [zV];rfl
      have t8:(n.op==8)=false:=by rw [zV];rfl
      clear zV;go_wp2_with fail;refine(Lr n.i fO.out.2.1 _ sx _ (jX.out.ext (Qz.alloc _))).mono ?_;rintro e w2 ⟨u,rfl,hm⟩;have HM:=Qq (hm.before (Qz.alloc _));clear hm;go_wp2_with fail;go_meet;exact Qq (by rw [HS.out,oX.out];exact HM.out)
     ·have HS:=Qq (show Jp n (out.getD n.x.toNat []) (out.getD n.y.toNat [])=Kq (Gc n.i (Kq (out.getD n.x.toNat []))) by unfold Jp;rw [zV];rfl);have t1:(n.op==1)=false:=by rw [zV];rfl
      have t2:(n.op==2)=false:=by rw [zV];rfl
      have t3:(n.op==3)=false:=by rw [zV];rfl
      have t4:(n.op==4)=false:=by rw [zV];rfl
      have t9:(n.op==9)=false:=by rw [zV];rfl
      have t10:(n.op==10)=true:=by rw [zV];rfl
      have t11:(n.op==11)=false:=by rw [zV];rfl
      have t5:(n.op==5)=false:=by rw [zV];rfl
      have t6:(n.op==6)=false:=by rw [zV];rfl
      have t7:(n.op==7)=false:=by rw [zV];rfl
      have t8:(n.op==8)=false:=by rw [zV];rfl
      clear zV;go_upto_region 31 with(fail);have SS:Ext wq (wq.alloc (.cells #[.int .i64 n.op,.int .i64 n.i,.int .i64 n.e,.int .i64 n.g,.int .i64 (j:Int),.int .i64 n.y] 71)):=Qz.alloc _;have YU:=Qq (jX.out.ext SS);obtain⟨W0,zE⟩:∃v,v=wq.alloc (.cells #[.int .i64 n.op,.int .i64 n.i,.int .i64 n.e,.int .i64 n.g,.int .i64 (j:Int),.int .i64 n.y] 71):=⟨_,rfl⟩;rw [<-zE]at d1 dlt SS YU⊢;clear zE d0 d2 d3 d4 d5 c0 c1 c2 c3 c4 c5 dfr lY;refine wp_region_held_drew (S:=fun w'=>w'.cell? (⟨wq.heap.size,1,none⟩)=some (.int .i64 n.i)) (by kernel_rfl) (xc dlt d1) (fun zZ=> ?_);refine tk 0 zZ ?_;refine tk 1 zZ ?_
      refine tk 2 zZ ?_;refine wpAnyH_ready (rs:= [3]) (by kernel_rfl) (by simp) ?_;refine AllReadyH.cons rfl (fun K hK=> ?_) AllReadyH.nil;go_simp;refine(Cy _ sx _ (YU.out.ext xw)).mono ?_;rintro e w2 ⟨u2,rfl,xM⟩;have zS:Ext W0 w2:=Ext.trans xw xM.ext;have vU:=Qq (xM.before (w0:=W0) xw);clear xM;go_wp2_with fail;refine hK.out _ _ (xc dlt d1) (fun zZ=> ?_);clear hK K;refine Qd ?_;refine wpAnyH_ready (rs:= [4]) (by kernel_rfl) (by simp) ?_;refine AllReadyH.cons rfl (fun K hK=> ?_) AllReadyH.nil;go_simp;refine(Lr n.i fO.out.2.1 _ _ _ (vU.out.fml.ext xw)).mono ?_;rintro e w3 ⟨u3,rfl,jG⟩
      have zI:Ext W0 w3:=Ext.trans xw jG.ext;have mX:=Qq (jG.before (w0:=W0) xw);clear jG;go_wp2_with fail;refine hK.out _ _ (xc dlt d1) (fun zZ=> ?_);clear hK K;refine Qd ?_;refine wpAnyH_ready (rs:= [5]) (by kernel_rfl) (by simp) ?_;refine AllReadyH.cons rfl (fun K hK=> ?_) AllReadyH.nil;go_simp;refine(Cy _ _ _ (mX.out.fml.ext xw)).mono ?_;rintro e w4 ⟨u4,rfl,oD⟩;have yD:Ext W0 w4:=Ext.trans xw oD.ext;have fR:=Qq (oD.before (w0:=W0) xw);clear oD;go_wp2_with fail;refine hK.out _ _ (xc dlt d1) (fun zZ=> ?_);clear hK K;refine Qd ?_;refine tk 6 zZ ?_;refine wpAnyH_done (by kernel_rfl) ?_ _
      go_wp2_with fail;go_meet;exact Qq (by rw [HS.out,oX.out];exact fR.out.before SS)
     have HS:=Qq (show Jp n (out.getD n.x.toNat []) (out.getD n.y.toNat [])=Qys (Wj n.g (out.getD n.x.toNat [])) by unfold Jp;rw [zV];rfl);have t1:(n.op==1)=false:=by rw [zV];rfl
     have t2:(n.op==2)=false:=by rw [zV];rfl
     have t3:(n.op==3)=false:=by rw [zV];rfl
     have t4:(n.op==4)=false:=by rw [zV];rfl
     have t9:(n.op==9)=false:=by rw [zV];rfl
     have t10:(n.op==10)=false:=by rw [zV];rfl
     have t11:(n.op==11)=true:=by rw [zV];rfl
     have t5:(n.op==5)=false:=by rw [zV];rfl
     have t6:(n.op==6)=false:=by rw [zV];rfl
     have t7:(n.op==7)=false:=by rw [zV];rfl
     have t8:(n.op==8)=false:=by rw [zV];rfl
     have SS:Ext wq (wq.alloc (.cells #[.int .i64 n.op,.int .i64 n.i,.int .i64 n.e,.int .i64 n.g,.int .i64 (j:Int),.int .i64 n.y] 71)):=Qz.alloc _;have YU:=Qq (jX.out.ext SS);have jJ:=Qy5 M4.out (.inl zV);obtain⟨gn,vY⟩:=Int.eq_ofNat_of_zero_le jJ.1;have UK:gn < 16:=by omega
     have mZ:=Qq vY;obtain⟨W0,zE⟩:∃v,v=wq.alloc (.cells #[.int .i64 n.op,.int .i64 n.i,.int .i64 n.e,.int .i64 n.g,.int .i64 (j:Int),.int .i64 n.y] 71):=⟨_,rfl⟩;rw [<-zE]at d0 d1 d2 d3 d4 d5 dlt dfr SS YU lY⊢;have d3':W0.cell? ⟨wq.heap.size,3,none⟩=some (.int .i64 (gn:Int)):=by rw [d3,vY]
     clear zE jJ vY zV d1 d2 d3 d4 d5 c0 c1 c2 c3 c4 c5 dfr lY;have D3:=Qq d3';clear d3';go_wp2_with fail;go_loopw [9,91] (fun vo vi wr=>∃q:Nat,vi=.int .i64 (q:Int)/\q<=4/\Hid (∃ol,ol=((List.range q).filter fun i=>Vy (gn:Int) i).map (fun(i:Nat)=>Gc (i:Int) sx)/\Vo W0 wr vo ol)) (fun _ v _=>4 - (intOf v).toNat)
     case atStart=>exact⟨0,rfl,Nat.zero_le _,Qq ⟨[],rfl,Vo.nil _⟩⟩
     case round =>
      obtain⟨q,rfl,hq,zY⟩:=hrel;obtain⟨ol,TU,yF⟩:=zY.out;obtain⟨us2,sT,dO⟩:=yF.row;obtain⟨Ao2,co2,rfl⟩:=Qs sT;have pZ:=Qq TU;have wI:=Qq yF;have wH:=Qq sT;have VP:=Qq dO;have Q9:ol.length<=4:=by rw [TU];refine Qx (by rw [List.length_map];exact List.length_filter_le _ _) (by simp;omega)
      clear zY TU yF sT dO;have dl3:=(wI.out.ext.cell (p:=⟨wq.heap.size,3,none⟩) dlt).trans D3.out;have DZ:wq.heap.size < wr.heap.size:=Qy dlt wI.out.ext.size;by_cases RM:q < 4
      ·have RN:(q:Int) < 4:=by omega
       have tP:=Pq gn q (by omega);cases uE:gn.testBit q
       case true =>
        rw [uE]at tP;have lG:=Qq (show((List.range (q+1)).filter fun i=>Vy (gn:Int) i).map (fun(i:Nat)=>Gc (i:Int) sx)=ol++ [Gc (q:Int) sx] by rw [List.range_succ,List.filter_append,List.map_append,<-pZ.out,List.filter_cons,show Vy (gn:Int) q=true from uE];rfl);clear uE;go_wp2_with fail;refine(Lr (q:Int) ⟨by omega,by omega⟩ _ sx _ (YU.out.ext wI.out.ext)).mono ?_;rintro e w2 ⟨u,rfl,hm⟩;have HM:=Qq hm;have Y1:=Qq hm.ext;obtain⟨Au,cu,rfl,_⟩:=Qh hm.fml;clear hm;have xN:ol.length+1<=maxLen:=by unfold maxLen;omega
        have xJ:(ol.length+1)*24<=140737488355328:=by omega
        go_wp2_with(at_builtin;refine wpList_append_own_at _ rfl _ _ 32 rfl W0.heap.size 22 iI (.slice none 0 0) 1 24 Tryz.underlying32 pK vO vN vM rfl (by decide) _ ol.length us2 rfl (Zf wH.out (Y1.out.alloc _)) ⟨_,0,none⟩ 1 1 [.slice Au (Gc (q:Int) sx).length cu] rfl rfl (Zm _ _ _ (by simp)) (fun u hu=>by rw [List.mem_singleton.1 hu];rfl) xN xJ (Qx wI.out.ext.size (Y1.out.alloc _).size) ?_);intro v7 w7 zW zX _ zF;have pP:=Qq (Vo.push (s:=Gc (q:Int) sx) ((wI.out.ext.trans Y1.out).alloc _) (Zf wH.out (Y1.out.alloc _)) (fun k s hk=>by
         obtain⟨u,a,b,c⟩:=VP.out k s hk;exact⟨u,a,b.ext (Y1.out.alloc _),c.ext (Y1.out.alloc _)⟩) zW zX (zF.imp id (fun e=>e.trans (by simp))) (HM.out.fml.ext (Qz.alloc _)) (Tv (Nat.le_refl _) (Zf HM.out.1 (Qz.alloc _)) wH.out wI.out.ext.size))
        obtain⟨A7,c7,rfl⟩:=Qs zW;clear zW zX zF;go_wp2_with fail;go_roundw
        case rel=>exact⟨q+1,by go_num,by omega,Qq ⟨_,lG.out.symm,pP.out⟩⟩
        case measure=>simp [intOf];omega
       case false =>
        rw [uE]at tP;have lG:=Qq (show((List.range (q+1)).filter fun i=>Vy (gn:Int) i).map (fun(i:Nat)=>Gc (i:Int) sx)=ol by rw [List.range_succ,List.filter_append,List.map_append,<-pZ.out,List.filter_cons,show Vy (gn:Int) q=false from uE];exact List.append_nil _);clear uE;go_wp2_with fail;go_roundw
        case rel=>exact⟨q+1,by go_num,by omega,Qq ⟨_,lG.out.symm,wI.out⟩⟩
        case measure=>simp [intOf];omega
      obtain rfl:4=q:=by omega
      go_wp2_with fail;refine(Qw4 _ ol _ wI.out.fmls).mono ?_;rintro e w2 ⟨u2,rfl,xM⟩;have vU:=Qq xM;clear xM;go_wp2_with fail;go_meet;exact Qq (by rw [HS.out,oX.out,Wj,mZ.out,show((List.range 4).filter fun i=>Vy (gn:Int) i).map (fun(i:Nat)=>Gc (i:Int) sx)=ol from pZ.out.symm];exact vU.out.before (SS.trans wI.out.ext))
    case rest =>
     have HG:=hcut;clear hcut;obtain⟨As8,cs8,rfl,_⟩:=Qh HG.out.fml;have rR:=Qq HG.out.ext;by_cases hz:(Jp n (out.getD n.x.toNat []) (out.getD n.y.toNat [])).length=0
     ·have HE:=Qq (show Jo f= [] by
       unfold Jo;rw [<-tX.out,Pg (k:=k+1) (by rw [Bw HN.out HO.out,decide_eq_true hz];rfl)])
      have sJ:(((Jp n (out.getD n.x.toNat []) (out.getD n.y.toNat [])).length:Int)==0)=true:=by rw [hz];rfl
      generalize (Jp n (out.getD n.x.toNat []) (out.getD n.y.toNat [])).length=m8 at hz sJ;clear hz;go_wp2_with fail;go_ret;exact⟨_,rfl,by rw [HE.out];exact Lg _,jW.out.ext.trans (wS.out.ext.trans rR.out)⟩
     have sJ:(((Jp n (out.getD n.x.toNat []) (out.getD n.y.toNat [])).length:Int)==0)=false:=by rw [beq_eq_false_iff_ne];omega
     have wG:=Qq (show Uq (cl.take (k+1)) []=some (out++ [Jp n (out.getD n.x.toNat []) (out.getD n.y.toNat [])]) by rw [Bw HN.out HO.out,decide_eq_false hz];rfl);clear hz;generalize Jp n (out.getD n.x.toNat []) (out.getD n.y.toNat [])=g8 at HG sJ wG;have xN:out.length+1<=maxLen:=by unfold maxLen;omega
     have xJ:(out.length+1)*24<=140737488355328:=by omega
     go_wp2_with(at_builtin;refine wpList_append_own_at _ rfl _ _ 32 rfl w0.heap.size 22 iI (.slice none 0 0) 1 24 Tryz.underlying32 pK vO vN vM rfl (by decide) _ out.length us rfl (Zf yJ.out (rR.out.alloc _)) ⟨_,0,none⟩ 1 1 [.slice As8 g8.length cs8] rfl rfl (Zm _ _ _ (by simp)) (fun u hu=>by rw [List.mem_singleton.1 hu];rfl) xN xJ (Qx wS.out.ext.size (rR.out.alloc _).size) ?_);intro v7 w7 zW zX _ zF;have pP:=Qq (Vo.push (s:=g8) ((wS.out.ext.trans rR.out).alloc _) (Zf yJ.out (rR.out.alloc _)) (fun k s hk=>by
      obtain⟨u,a,b,c⟩:=jO.out k s hk;exact⟨u,a,b.ext (rR.out.alloc _),c.ext (rR.out.alloc _)⟩) zW zX (zF.imp id (fun e=>e.trans (by simp))) (HG.out.fml.ext (Qz.alloc _)) (Tv (Nat.le_refl _) (Zf HG.out.1 (Qz.alloc _)) yJ.out wS.out.ext.size))
     obtain⟨A7,c7,rfl⟩:=Qs zW;clear zW zX zF;go_wp2_with fail;go_roundw
     case rel=>exact⟨k+1,by go_num,by omega,Qq ⟨_,wG.out,by rw [List.length_append,zD.out];rfl,pP.out⟩⟩
     case measure=>simp [intOf];omega
   have LZ:4<=n.op:=by omega
   have hX:0<=n.x/\n.x < k:=SC.out.1 (by rcases zV with e|e|e|e|e <;> rw [e] <;> rfl);obtain⟨g0,cap0,nZ,wB,xP⟩:=wS.out.slice (by rw [zD.out];omega);injection nZ with hsl1 _ wA;subst hsl1 wA;unfold maxLen at xP;obtain⟨j,hj⟩:=Int.eq_ofNat_of_zero_le hX.1;obtain⟨sx,tD⟩:∃s,out[j]?=some s:=⟨_,List.getElem?_eq_getElem (by rw [zD.out];omega)⟩;obtain⟨ux,pU,jK,xO⟩:=wS.out.get tD;have oX:=Qq (show out.getD n.x.toNat []=sx by rw [hj,Int.toNat_natCast,Qk,tD];rfl);have jX:=Qq jK;obtain⟨Ax,cx,rfl,_⟩:=Qh jK;have lX:(j:Int) < (out.length:Int):=by rw [zD.out];omega
   have cT:=Qq hj;have c4':wq.cell? ⟨(ad.add (k*6)).block,(ad.add (k*6)).off+4,none⟩=some (.int .i64 (j:Int)):=by rw [c4,hj]
   have hY:0<=n.y/\n.y < k:=SC.out.2 (by rcases zV with e|e|e|e|e <;> rw [e] <;> rfl);obtain⟨j2,iH⟩:=Int.eq_ofNat_of_zero_le hY.1;obtain⟨sy,TB⟩:∃s,out[j2]?=some s:=⟨_,List.getElem?_eq_getElem (by rw [zD.out];omega)⟩;obtain⟨uy,sQ,UL,_⟩:=wS.out.get TB;have aW:=Qq (show out.getD n.y.toNat []=sy by rw [iH,Int.toNat_natCast,Qk,TB];rfl);have sI:=Qq UL;obtain⟨Ay,cy,rfl,_⟩:=Qh UL;have DH:(j2:Int) < (out.length:Int):=by rw [zD.out];omega
   rw [iH]at c5;clear TB UL hY iH;rw [hj]at c4;clear tD jK hX hj c4';have lY:=Qq (show(wq.alloc (.cells #[.int .i64 n.op,.int .i64 n.i,.int .i64 n.e,.int .i64 n.g,.int .i64 (j:Int),.int .i64 (j2:Int)] 71)).heap[wq.heap.size]?=some (.cells #[.int .i64 n.op,.int .i64 n.i,.int .i64 n.e,.int .i64 n.g,.int .i64 (j:Int),.int .i64 (j2:Int)] 71 (0,0))from heap_alloc_new _ _);obtain⟨⟨d0,d1,d2,d3,d4,d5⟩,dfr,dlt⟩:=Vm lY.out;go_upto_block 2 with(fail);go_cut [8] (fun s8 wx=>Hid (Yo wq wx s8 (Jp n (out.getD n.x.toNat []) (out.getD n.y.toNat []))))
   case first =>
    rcases zV with zV|zV|zV|zV|zV
    ·have HS:=Qq (show Jp n (out.getD n.x.toNat []) (out.getD n.y.toNat [])=Fo (out.getD n.x.toNat []) (out.getD n.y.toNat []) by unfold Jp;rw [zV];rfl);have t1:(n.op==1)=false:=by rw [zV];rfl
     have t2:(n.op==2)=false:=by rw [zV];rfl
     have t3:(n.op==3)=false:=by rw [zV];rfl
     have t4:(n.op==4)=false:=by rw [zV];rfl
     have t9:(n.op==9)=false:=by rw [zV];rfl
     have t10:(n.op==10)=false:=by rw [zV];rfl
     have t11:(n.op==11)=false:=by rw [zV];rfl
     have t5:(n.op==5)=true:=by rw [zV];rfl
     have t6:(n.op==6)=false:=by rw [zV];rfl
     have t7:(n.op==7)=false:=by rw [zV];rfl
     have t8:(n.op==8)=false:=by rw [zV];rfl
     clear zV;go_wp2_with fail;refine(Qzo _ _ sx sy _ (jX.out.ext (Qz.alloc _)) (sI.out.ext (Qz.alloc _))).mono ?_;rintro e w2 ⟨u,rfl,hm⟩;have HM:=Qq (hm.before (Qz.alloc _));clear hm;go_wp2_with fail;go_meet;exact Qq (by rw [HS.out,oX.out,aW.out];exact HM.out)
    ·have HS:=Qq (show Jp n (out.getD n.x.toNat []) (out.getD n.y.toNat [])=orN (out.getD n.x.toNat []) (out.getD n.y.toNat []) by unfold Jp;rw [zV];rfl);have t1:(n.op==1)=false:=by rw [zV];rfl
     have t2:(n.op==2)=false:=by rw [zV];rfl
     have t3:(n.op==3)=false:=by rw [zV];rfl
     have t4:(n.op==4)=false:=by rw [zV];rfl
     have t9:(n.op==9)=false:=by rw [zV];rfl
     have t10:(n.op==10)=false:=by rw [zV];rfl
     have t11:(n.op==11)=false:=by rw [zV];rfl
     have t5:(n.op==5)=false:=by rw [zV];rfl
     have t6:(n.op==6)=true:=by rw [zV];rfl
     have t7:(n.op==7)=false:=by rw [zV];rfl
     have t8:(n.op==8)=false:=by rw [zV];rfl
     clear zV;go_wp2_with fail;refine(Zz7 _ _ sx sy _ (jX.out.ext (Qz.alloc _)) (sI.out.ext (Qz.alloc _))).mono ?_;rintro e w2 ⟨u,rfl,hm⟩;have HM:=Qq (hm.before (Qz.alloc _));clear hm;go_wp2_with fail;go_meet;exact Qq (by rw [HS.out,oX.out,aW.out];exact HM.out)
    ·have HS:=Qq (show Jp n (out.getD n.x.toNat []) (out.getD n.y.toNat [])=Qy7 (out.getD n.x.toNat []) (out.getD n.y.toNat []) by unfold Jp;rw [zV];rfl);have t1:(n.op==1)=false:=by rw [zV];rfl
     have t2:(n.op==2)=false:=by rw [zV];rfl
     have t3:(n.op==3)=false:=by rw [zV];rfl
     have t4:(n.op==4)=false:=by rw [zV];rfl
     have t9:(n.op==9)=false:=by rw [zV];rfl
     have t10:(n.op==10)=false:=by rw [zV];rfl
     have t11:(n.op==11)=false:=by rw [zV];rfl
     have t5:(n.op==5)=false:=by rw [zV];rfl
     have t6:(n.op==6)=false:=by rw [zV];rfl
     have t7:(n.op==7)=true:=by rw [zV];rfl
     have t8:(n.op==8)=false:=by rw [zV];rfl
     clear zV;go_wp2_with fail;refine(Qxc _ _ sx sy _ (jX.out.ext (Qz.alloc _)) (sI.out.ext (Qz.alloc _))).mono ?_;rintro e w2 ⟨u,rfl,hm⟩;have HM:=Qq (hm.before (Qz.alloc _));clear hm;go_wp2_with fail;go_meet;exact Qq (by rw [HS.out,oX.out,aW.out];exact HM.out)
    ·have HS:=Qq (show Jp n (out.getD n.x.toNat []) (out.getD n.y.toNat [])=Qaw (out.getD n.x.toNat []) (out.getD n.y.toNat []) by unfold Jp;rw [zV];rfl);have t1:(n.op==1)=false:=by rw [zV];rfl
     have t2:(n.op==2)=false:=by rw [zV];rfl
     have t3:(n.op==3)=false:=by rw [zV];rfl
     have t4:(n.op==4)=false:=by rw [zV];rfl
     have t9:(n.op==9)=false:=by rw [zV];rfl
     have t10:(n.op==10)=false:=by rw [zV];rfl
     have t11:(n.op==11)=false:=by rw [zV];rfl
     have t5:(n.op==5)=false:=by rw [zV];rfl
     have t6:(n.op==6)=false:=by rw [zV];rfl
     have t7:(n.op==7)=false:=by rw [zV];rfl
     have t8:(n.op==8)=true:=by rw [zV];rfl
     clear zV;go_wp2_with fail;refine(Qaj _ _ sx sy _ (jX.out.ext (Qz.alloc _)) (sI.out.ext (Qz.alloc _))).mono ?_;rintro e w2 ⟨u,rfl,hm⟩;have HM:=Qq (hm.before (Qz.alloc _));clear hm;go_wp2_with fail;go_meet;exact Qq (by rw [HS.out,oX.out,aW.out];exact HM.out)
    have HS:=Qq (show Jp n (out.getD n.x.toNat []) (out.getD n.y.toNat [])=Qxn n.g (out.getD n.x.toNat []) (out.getD n.y.toNat []) by unfold Jp;rw [zV];rfl);have t1:(n.op==1)=false:=by rw [zV];rfl
    have t2:(n.op==2)=false:=by rw [zV];rfl
    have t3:(n.op==3)=false:=by rw [zV];rfl
    have t4:(n.op==4)=false:=by rw [zV];rfl
    have t9:(n.op==9)=false:=by rw [zV];rfl
    have t10:(n.op==10)=false:=by rw [zV];rfl
    have t11:(n.op==11)=false:=by rw [zV];rfl
    have t5:(n.op==5)=false:=by rw [zV];rfl
    have t6:(n.op==6)=false:=by rw [zV];rfl
    have t7:(n.op==7)=false:=by rw [zV];rfl
    have t8:(n.op==8)=false:=by rw [zV];rfl
    clear zV;go_wp2_with fail;refine(Qtj n.g fO.out.2.2.2.1 _ _ sx sy _ (jX.out.ext (Qz.alloc _)) (sI.out.ext (Qz.alloc _))).mono ?_;rintro e w2 ⟨u,rfl,hm⟩;have HM:=Qq (hm.before (Qz.alloc _));clear hm;go_wp2_with fail;go_meet;exact Qq (by rw [HS.out,oX.out,aW.out];exact HM.out)
   case rest =>
    have HG:=hcut;clear hcut;obtain⟨As8,cs8,rfl,_⟩:=Qh HG.out.fml;have rR:=Qq HG.out.ext;by_cases hz:(Jp n (out.getD n.x.toNat []) (out.getD n.y.toNat [])).length=0
    ·have HE:=Qq (show Jo f= [] by
      unfold Jo;rw [<-tX.out,Pg (k:=k+1) (by rw [Bw HN.out HO.out,decide_eq_true hz];rfl)])
     have sJ:(((Jp n (out.getD n.x.toNat []) (out.getD n.y.toNat [])).length:Int)==0)=true:=by rw [hz];rfl
     generalize (Jp n (out.getD n.x.toNat []) (out.getD n.y.toNat [])).length=m8 at hz sJ;clear hz;go_wp2_with fail;go_ret;exact⟨_,rfl,by rw [HE.out];exact Lg _,jW.out.ext.trans (wS.out.ext.trans rR.out)⟩
    have sJ:(((Jp n (out.getD n.x.toNat []) (out.getD n.y.toNat [])).length:Int)==0)=false:=by rw [beq_eq_false_iff_ne];omega
    have wG:=Qq (show Uq (cl.take (k+1)) []=some (out++ [Jp n (out.getD n.x.toNat []) (out.getD n.y.toNat [])]) by rw [Bw HN.out HO.out,decide_eq_false hz];rfl);clear hz;generalize Jp n (out.getD n.x.toNat []) (out.getD n.y.toNat [])=g8 at HG sJ wG;have xN:out.length+1<=maxLen:=by unfold maxLen;omega
    have xJ:(out.length+1)*24<=140737488355328:=by omega
    go_wp2_with(at_builtin;refine wpList_append_own_at _ rfl _ _ 32 rfl w0.heap.size 22 iI (.slice none 0 0) 1 24 Tryz.underlying32 pK vO vN vM rfl (by decide) _ out.length us rfl (Zf yJ.out (rR.out.alloc _)) ⟨_,0,none⟩ 1 1 [.slice As8 g8.length cs8] rfl rfl (Zm _ _ _ (by simp)) (fun u hu=>by rw [List.mem_singleton.1 hu];rfl) xN xJ (Qx wS.out.ext.size (rR.out.alloc _).size) ?_);intro v7 w7 zW zX _ zF;have pP:=Qq (Vo.push (s:=g8) ((wS.out.ext.trans rR.out).alloc _) (Zf yJ.out (rR.out.alloc _)) (fun k s hk=>by
     obtain⟨u,a,b,c⟩:=jO.out k s hk;exact⟨u,a,b.ext (rR.out.alloc _),c.ext (rR.out.alloc _)⟩) zW zX (zF.imp id (fun e=>e.trans (by simp))) (HG.out.fml.ext (Qz.alloc _)) (Tv (Nat.le_refl _) (Zf HG.out.1 (Qz.alloc _)) yJ.out wS.out.ext.size))
    obtain⟨A7,c7,rfl⟩:=Qs zW;clear zW zX zF;go_wp2_with fail;go_roundw
    case rel=>exact⟨k+1,by go_num,by omega,Qq ⟨_,wG.out,by rw [List.length_append,zD.out];rfl,pP.out⟩⟩
    case measure=>simp [intOf];omega
  obtain rfl:cl.length=k:=by omega
  obtain⟨g0,cap0,nZ,wB,xP⟩:=wS.out.slice (by rw [zD.out];omega);injection nZ with hsl1 _ wA;subst hsl1 wA;unfold maxLen at xP;obtain⟨sx,tD⟩:∃s,out[out.length - 1]?=some s:=⟨_,List.getElem?_eq_getElem (by rw [zD.out];omega)⟩;obtain⟨ux,pU,jK,xO⟩:=wS.out.get tD;have jX:=Qq jK;have oX:=Qq (show Jo f=sx by
   have h1:=HO.out;rw [List.take_of_length_le (Nat.le_refl _)]at h1;unfold Jo;rw [<-tX.out,h1];show out.getLastD []=sx;rw [List.getLastD_eq_getLast?,List.getLast?_eq_getElem?,tD]
   rfl)
  have iJ:((out.length:Int) - 1) < (out.length:Int):=by omega
  have jI:(0:Int)<=(out.length:Int) - 1:=by rw [zD.out];omega
  have e1:((out.length:Int) - 1).toNat=out.length - 1:=by omega
  clear tD jK;go_wp2_with fail;go_ret;exact⟨ux,rfl,by rw [oX.out];exact jX.out,jW.out.ext.trans wS.out.ext⟩
end Go.Proofs.YtkmclcmnoicagaaGreatDoor
