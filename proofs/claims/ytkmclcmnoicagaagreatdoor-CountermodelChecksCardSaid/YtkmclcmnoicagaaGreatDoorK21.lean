/- The reference's checker: Sets, the walk. -/
import Derived.Test.YtkmclcmnoicagaaGreatDoorK19
import Derived.Test.YtkmclcmnoicagaaGreatDoorK20
namespace Go.Proofs.YtkmclcmnoicagaaGreatDoor
set_option maxRecDepth 100000
set_option maxHeartbeats 128000000
open Go.RowKit
theorem Qei(vm v:Value)(md:Md)(f:List Nd)(w:World)(hm:MdV w vm md)(zO:md.ok)(h:Fml w v f):
 Calls Tryz.prog 148 #[vm,v] w fun e w'=>∃u,e=.returned (.tuple #[u,.int .i64 (Zi md f)])/\Ext w w'/\Hid (Zx w.heap.size w' u (if Zi md f=0 then Kd md f f.length else [])):=by
 have H:=Qq h;have HM:=Qq hm;have zD:=Qq zO;obtain⟨iU,sK,xC,xB,xA⟩:=info_parts De;obtain⟨vv,vr,rfl,⟨Av,cv,rfl,_⟩,⟨Ar,cr,rfl,_⟩⟩:=hm;obtain⟨⟨A,c,rfl,C6,oE,zM⟩,_⟩:=h;have uJ:=Qq zM;unfold maxLen at oE;clear zO zM;have zK:=Qq (show Ext w (w.alloc (.cells #[.int .i64 md.n,.slice Av md.val.length cv,.slice Ar md.rel.length cr] 26))from Qz.alloc _);have vV:=Qq (show(w.alloc (.cells #[.int .i64 md.n,.slice Av md.val.length cv,.slice Ar md.rel.length cr] 26)).heap[w.heap.size]?=some (.cells #[.int .i64 md.n,.slice Av md.val.length cv,.slice Ar md.rel.length cr] 26 (0,0))from heap_alloc_new _ _)
 obtain⟨er,vG⟩:∃er,er=Zi md f:=⟨_,rfl⟩;have wU:=Qq vG;rw [<-vG];clear vG;by_cases hz:er=0
 ·subst hz;obtain⟨xI,aK,_,_⟩:=Vr wU.out.symm;have tS:=Qq xI;have dH:=Qq aK;obtain⟨vR,yN,uC,gK,_,_,_⟩:=Zn xI;have bO:=Qq (show md.n.toNat<=64 by omega);have KS:=Qq uC;have iL:=(Jg aK).2.1;clear xI aK vR yN uC gK;go_enter Tryz.func148,Tryz.ntmps148;go_wp2_with fail;refine(Qqb _ _ md f _ (HM.out.ext zK.out) zD.out (H.out.ext zK.out)).mono ?_;rintro e w1 ⟨rfl,zN⟩;rw [<-wU.out];have zL:=Qq (zK.out.trans zN);have wJ:=Qq ((zN.block (Qf vV.out)).trans vV.out);obtain⟨b,hb⟩:∃b,b=w.heap.size:=⟨_,rfl⟩;rw [<-hb]at wJ⊢;have tB:=Qq (show b < w1.heap.size from Qf wJ.out)
  clear zN vV hb;go_wp2_with fail;go_loopw [7,8] (fun vo vi wr=>∃k:Nat,vi=.int .i64 (k:Int)/\k<=f.length/\Hid (Ext w1 wr/\Zx w1.heap.size wr vo (Kd md f k))) (fun _ v _=>f.length - (intOf v).toNat)
  case atStart=>exact⟨0,rfl,Nat.zero_le _,Qq ⟨Qz,Zx.nil _ _⟩⟩
  case round =>
   obtain⟨k,rfl,hk,zY⟩:=hrel;have HX:=Qq zY.out.1;have tJ:=Qq zY.out.2;obtain⟨out,yC⟩:∃o,o=Kd md f k:=⟨_,rfl⟩;have tG:out.length<=f.length:=by rw [yC,Rg];exact hk
   have pZ:=Qq (show out.length=k by rw [yC,Rg]);have iW:=Qq (show ∀s∈out,Qp s by rw [yC];exact Qxq zD.out bO.out f k);have lB:=Qq yC;rw [<-yC]at tJ;obtain⟨Ax,cx,rfl⟩:=Qs tJ.out;obtain⟨e0,e1,e2,eb⟩:=Zt ((HX.out.block tB.out).trans wJ.out);have yY:=Qq (zL.out.trans HX.out);clear zY yC;by_cases hlt2:k < f.length
   ·have yP:(k:Int) < (f.length:Int):=by omega
    have xN:out.length+1<=maxLen:=by unfold maxLen;omega
    have xJ:(out.length+1)*8<=140737488355328:=by omega
    obtain⟨wq,vD⟩:∃v,v=wr:=⟨_,rfl⟩;subst vD;obtain⟨ft,NQ⟩:∃t,t=Pf md f (k:Int):=⟨_,rfl⟩;have WQ:=Qq NQ;clear NQ;go_wp2_with fail;refine(Qth _ _ md f (k:Int) _ (HM.out.ext yY.out) (H.out.ext yY.out)).mono ?_;rintro e w2 ⟨rfl,zS⟩;rw [<-WQ.out];have zR:=Qq (HX.out.trans zS);have pW:=Qq (tJ.out.ext zS);have vI:=Qq (yY.out.trans zS);clear zS e0 e1 e2 eb;cases ft
    ·have nN:=Qq (show Kd md f (k+1)=out++ [0] by
      show Kd md f k++ [Co md f (Kd md f k) k]=_;rw [<-lB.out];unfold Co;rw [<-WQ.out]
      rfl)
     go_wp2_with(at_builtin;refine wpList_append_own_at _ rfl _ _ 23 rfl w1.heap.size 41 iU (.int .u64 0) 1 8 Tryz.underlying23 sK xC xB xA rfl (by decide) _ out.length (uV out) rfl (Zf pW.out (Qz.alloc _)) ⟨_,0,none⟩ 1 1 [.int .u64 0] rfl rfl (Zm _ _ _ (by simp)) (fun u hu=>by rw [List.mem_singleton.1 hu];rfl) xN xJ (Qx zR.out.size (by simp)) ?_);intro v7 w7 zW zX _ _;have rS:=Qq (show Ext w1 w7 from(zR.out.alloc _).grown zX (fun k hk=>(pW.out.lt k hk).1));have qA:=Qq (show Zx w1.heap.size w7 v7 (Kd md f (k+1)) by
      rw [nN.out];unfold Zx uV;rw [List.map_append,List.length_append];exact zW)
     obtain⟨A7,c7,rfl⟩:=Qs zW;clear zW zX;go_wp2_with fail;go_roundw
     case rel=>exact⟨k+1,by go_num,by omega,Qq ⟨rS.out,qA.out⟩⟩
     case measure=>simp [intOf];omega
    obtain⟨n,hn⟩:∃n,f[k]?=some n:=⟨_,Qv hlt2⟩;have mD:=Qq (Qkr dH.out hn WQ.out.symm KS.out);have lC:=Qq (show f.getD k Nd.zero=n by rw [Qk,hn];rfl);have iN:=Qq (Ym dH.out k n hn);obtain⟨ad,rfl,zU,zJ⟩:=uJ.out (by intro e;rw [e]at hlt2;simp at hlt2);have lD:=Qq (zJ k n hn);obtain⟨c0,c1,c2,c3,c4,c5⟩:=(zJ k n hn).keep fun p hp=>vI.out.cell (p:=p) (by rw [hp,Qr];exact zU)
    have yW:(ad.add (k*6)).block < w2.heap.size:=by rw [Qr];exact Qy zU vI.out.size
    have nN:=Qq (show Kd md f (k+1)=out++ [Uk md n (if Qw n.op then out.getD n.x.toNat 0 else 0) (if Qc n.op then out.getD n.y.toNat 0 else 0)] by
     show Kd md f k++ [Co md f (Kd md f k) k]=_;rw [<-lB.out];unfold Co;rw [<-WQ.out,lC.out]
     rfl)
    clear hn zJ;obtain⟨bx,wT⟩:∃t,t=Qw n.op:=⟨_,rfl⟩;obtain⟨by_,qR⟩:∃t,t=Qc n.op:=⟨_,rfl⟩;have bY:=Qq wT;have bX:=Qq qR;rw [<-wT,<-qR]at nN iN;clear wT qR;cases bx
    ·cases by_
     ·skip
      obtain⟨xval,nV⟩:∃v:Nat,v=0:=⟨_,rfl⟩;have cT:=Qq (show Qp xval by rw [nV];show(0:Nat) < _;omega);obtain⟨yv,jB⟩:∃v:Nat,v=0:=⟨_,rfl⟩;have OP:=Qq (show Qp yv by rw [jB];show(0:Nat) < _;omega);have fJ:=Qq (show Kd md f (k+1)=out++ [Uk md n xval yv] by rw [nN.out];simp only [if_false,Bool.false_eq_true];rw [nV];rw [jB]);have H8:=Qq nV;clear nV;have FH:=Qq jB;clear jB;go_wp2_with fail;refine(Ek n.op _).mono ?_;rintro e w3 ⟨rfl,rfl⟩;rw [<-bY.out];go_wp2_with fail;refine(Ex n.op _).mono ?_;rintro e w4 ⟨rfl,rfl⟩;rw [<-bX.out];go_upto_region 15 with(fail);obtain⟨e0,e1,e2,eb⟩:=Zt ((zR.out.block tB.out).trans wJ.out)
      have wT:(Value.slice Ax out.length cx).ownBlock≠some b:=fun e=>by
       have h1:=(pW.out.lt b e).1;have h2:=tB.out;omega
      have xD:=Qq wT;have zA:=Qq (show(Value.slice Ax out.length cx).ownBlock≠some (ad.add (k*6)).block from fun e=>by
       have h1:=(pW.out.lt _ e).1;rw [Qr]at h1;have h2:=zL.out.size
       omega)
      clear wT;refine Yd 11 (fun w'=>w'.cell? (⟨b,0,none⟩)=some (.int .i64 md.n)/\w'.cell? (⟨b,1,none⟩)=some (.slice Av md.val.length cv)/\w'.cell? (⟨b,2,none⟩)=some (.slice Ar md.rel.length cr)/\w'.cell? (ad.add (k*6))=some (.int .i64 n.op)/\w'.cell? (⟨(ad.add (k*6)).block,(ad.add (k*6)).off+1,none⟩)=some (.int .i64 n.i)/\w'.cell? (⟨(ad.add (k*6)).block,(ad.add (k*6)).off+2,none⟩)=some (.int .i64 n.e)/\w'.cell? (⟨(ad.add (k*6)).block,(ad.add (k*6)).off+3,none⟩)=some (.int .i64 n.g)/\w'.cell? (⟨(ad.add (k*6)).block,(ad.add (k*6)).off+4,none⟩)=some (.int .i64 n.x)/\w'.cell? (⟨(ad.add (k*6)).block,(ad.add (k*6)).off+5,none⟩)=some (.int .i64 n.y)) (by kernel_rfl) ⟨xd eb e0,xd eb e1,xd eb e2,xd yW c0,xd yW c1,xd yW c2,xd yW c3,xd yW c4,xd yW c5⟩ (fun zZ=> ?_)
      refine utk 0 zZ ?_;refine utk 1 zZ ?_;refine utk 2 zZ ?_;refine utk 3 zZ ?_;refine utk 4 zZ ?_;refine utk 5 zZ ?_;refine utk 6 zZ ?_;refine utk 7 zZ ?_;refine Qa (rs:= [8]) (by kernel_rfl) (by simp) ?_;refine Zj.cons rfl (fun K hK=> ?_) Zj.nil;go_simp;have h1:=Qzy (.agg #[.int .i64 md.n,.slice Av md.val.length cv,.slice Ar md.rel.length cr]) md n xval yv w2.drew (HM.out.ext (vI.out.trans (Qz.drew))) zD.out tS.out mD.out cT.out OP.out;unfold Nd.val at h1;obtain⟨ov,oB⟩:∃o,o=Uk md n xval yv:=⟨_,rfl⟩;have bI:=Qq oB;rw [<-oB]at h1;clear oB;rw [H8.out,FH.out]at h1
      refine h1.mono ?_;clear h1;rintro e w3 ⟨rfl,yV⟩;have zI:Ext w2 w3:=Ext.trans (Qz.drew) yV;have zC:=Qq zI;have YR:=Qq (pW.out.ext zI);clear yV;go_wp2_with fail;refine hK.out _ _ ⟨xd eb e0,xd eb e1,xd eb e2,xd yW c0,xd yW c1,xd yW c2,xd yW c3,xd yW c4,xd yW c5⟩ (fun zZ=> ?_);clear hK K;refine Qb ?_;refine Qa (rs:= [9]) (by kernel_rfl) (by simp) ?_;refine Zj.cons rfl (fun K hK=> ?_) Zj.nil;go_simp;refine hK.out _ _ ⟨xd eb e0,xd eb e1,xd eb e2,xd yW c0,xd yW c1,xd yW c2,xd yW c3,xd yW c4,xd yW c5⟩ (fun zZ=> ?_);clear hK K;refine Qb ?_;refine Qa (rs:= [10]) (by kernel_rfl) (by simp) ?_
      refine Zj.cons rfl (fun K hK=> ?_) Zj.nil;refine Gq rfl (.tmp 59) (.tmp 68) 23 rfl w1.heap.size 41 iU (.int .u64 0) 1 8 Tryz.underlying23 sK xC xB xA rfl (by decide) (.slice Ax out.length cx) out.length (uV out) (by simp [Act.eval]) (Zf YR.out xv) ⟨w3.heap.size,0,none⟩ 1 1 [.int .u64 (ov:Int)] (by simp [Act.eval]) rfl (by exact Zm _ _ _ rfl) (fun u hu=>by rw [List.mem_singleton.1 hu];rfl) xN xJ (Qx (zR.out.trans zC.out).size (by simp)) ?_;intro v7 w7 zW zX zF;have rS:=Qq (show Ext w1 w7 from((zR.out.trans zC.out).alloc _).grown zX (fun k hk=>(YR.out.lt k hk).1))
      have qA:=Qq (show Zx w1.heap.size w7 v7 (Kd md f (k+1)) by
       rw [fJ.out,<-bI.out];unfold Zx uV;rw [List.map_append,List.length_append];exact zW)
      obtain⟨A7,c7,qZ⟩:=Qs zW;subst qZ;have kb:=(Rm zX xD.out (Qy eb zI.size)).trans (zI.block eb);have kn:=(Rm zX zA.out (Qy yW zI.size)).trans (zI.block yW);have E0:=(Yq (p:=⟨b,0,none⟩) kb).trans e0;have E1:=(Yq (p:=⟨b,1,none⟩) kb).trans e1;have E2':=(Yq (p:=⟨b,2,none⟩) kb).trans e2;have C0:=(Yq (p:=ad.add (k*6)) kn).trans c0;have C1:=(Yq (p:=⟨(ad.add (k*6)).block,(ad.add (k*6)).off+1,none⟩) kn).trans c1;have C2:=(Yq (p:=⟨(ad.add (k*6)).block,(ad.add (k*6)).off+2,none⟩) kn).trans c2;have C3:=(Yq (p:=⟨(ad.add (k*6)).block,(ad.add (k*6)).off+3,none⟩) kn).trans c3
      have C4:=(Yq (p:=⟨(ad.add (k*6)).block,(ad.add (k*6)).off+4,none⟩) kn).trans c4;have C5:=(Yq (p:=⟨(ad.add (k*6)).block,(ad.add (k*6)).off+5,none⟩) kn).trans c5;clear zW zX zF kb kn;refine hK.out _ _ ⟨E0,E1,E2',C0,C1,C2,C3,C4,C5⟩ (fun zZ=> ?_);clear hK K;refine Qb ?_;refine Yt (by kernel_rfl) rfl (fun K hK=> ?_);go_simp;refine hK.out _ _ ?_;clear hK K;refine Qb ?_;refine Ys (by kernel_rfl) ?_ _;go_wp2_with fail;go_roundw
      case rel=>exact⟨k+1,by go_num,by omega,Qq ⟨rS.out,qA.out⟩⟩
      case measure=>simp [intOf];omega
     (have P1:=Vn bX.out.symm;rw [<-bY.out]at P1;cases P1)
    cases by_
    ·skip
     obtain⟨ON,TZ⟩:=iN.out.1 rfl;obtain⟨ix,mL⟩:=Int.eq_ofNat_of_zero_le ON;have UF:ix < out.length:=by rw [pZ.out];omega
     have NE:(ix:Int) < (out.length:Int):=by omega
     obtain⟨gx,cpx,RU,gxl,_,_,_,mP,_⟩:=pW.out.slice (by omega);injection RU with hge1 _ hge2;subst hge1 hge2;have ox:=mP ix UF;rw [mL]at c4;obtain⟨xval,nV⟩:∃v,v=out.getD ix 0:=⟨_,rfl⟩;rw [<-nV]at ox;have cT:=Qq (show Qp xval by rw [nV];exact Yr iW.out ix);have VK:=Qq (show out.getD n.x.toNat 0=xval by rw [nV,mL];rfl);clear mP nV ON TZ;obtain⟨yv,jB⟩:∃v:Nat,v=0:=⟨_,rfl⟩;have OP:=Qq (show Qp yv by rw [jB];show(0:Nat) < _;omega);have fJ:=Qq (show Kd md f (k+1)=out++ [Uk md n xval yv] by rw [nN.out];simp only [if_true,if_false,Bool.false_eq_true];rw [VK.out];rw [jB])
     have FH:=Qq jB;clear jB;go_wp2_with fail;refine(Ek n.op _).mono ?_;rintro e w3 ⟨rfl,rfl⟩;rw [<-bY.out];go_wp2_with fail;refine(Ex n.op _).mono ?_;rintro e w4 ⟨rfl,rfl⟩;rw [<-bX.out];go_upto_region 15 with(fail);obtain⟨e0,e1,e2,eb⟩:=Zt ((zR.out.block tB.out).trans wJ.out);have wT:(Value.slice (some ⟨gx,0,none⟩) out.length cx).ownBlock≠some b:=fun e=>by
      have h1:=(pW.out.lt b e).1;have h2:=tB.out;omega
     have xD:=Qq wT;have zA:=Qq (show(Value.slice (some ⟨gx,0,none⟩) out.length cx).ownBlock≠some (ad.add (k*6)).block from fun e=>by
      have h1:=(pW.out.lt _ e).1;rw [Qr]at h1;have h2:=zL.out.size
      omega)
     clear wT;refine Yd 11 (fun w'=>w'.cell? (⟨b,0,none⟩)=some (.int .i64 md.n)/\w'.cell? (⟨b,1,none⟩)=some (.slice Av md.val.length cv)/\w'.cell? (⟨b,2,none⟩)=some (.slice Ar md.rel.length cr)/\w'.cell? (ad.add (k*6))=some (.int .i64 n.op)/\w'.cell? (⟨(ad.add (k*6)).block,(ad.add (k*6)).off+1,none⟩)=some (.int .i64 n.i)/\w'.cell? (⟨(ad.add (k*6)).block,(ad.add (k*6)).off+2,none⟩)=some (.int .i64 n.e)/\w'.cell? (⟨(ad.add (k*6)).block,(ad.add (k*6)).off+3,none⟩)=some (.int .i64 n.g)/\w'.cell? (⟨(ad.add (k*6)).block,(ad.add (k*6)).off+4,none⟩)=some (.int .i64 (ix:Int))/\w'.cell? (⟨(ad.add (k*6)).block,(ad.add (k*6)).off+5,none⟩)=some (.int .i64 n.y)) (by kernel_rfl) ⟨xd eb e0,xd eb e1,xd eb e2,xd yW c0,xd yW c1,xd yW c2,xd yW c3,xd yW c4,xd yW c5⟩ (fun zZ=> ?_)
     refine utk 0 zZ ?_;refine utk 1 zZ ?_;refine utk 2 zZ ?_;refine utk 3 zZ ?_;refine utk 4 zZ ?_;refine utk 5 zZ ?_;refine utk 6 zZ ?_;refine utk 7 zZ ?_;refine Qa (rs:= [8]) (by kernel_rfl) (by simp) ?_;refine Zj.cons rfl (fun K hK=> ?_) Zj.nil;go_simp;have h1:=Qzy (.agg #[.int .i64 md.n,.slice Av md.val.length cv,.slice Ar md.rel.length cr]) md n xval yv w2.drew (HM.out.ext (vI.out.trans (Qz.drew))) zD.out tS.out mD.out cT.out OP.out;unfold Nd.val at h1;obtain⟨ov,oB⟩:∃o,o=Uk md n xval yv:=⟨_,rfl⟩;have bI:=Qq oB;rw [<-oB]at h1;clear oB;rw [mL,FH.out]at h1
     refine h1.mono ?_;clear h1;rintro e w3 ⟨rfl,yV⟩;have zI:Ext w2 w3:=Ext.trans (Qz.drew) yV;have zC:=Qq zI;have YR:=Qq (pW.out.ext zI);clear yV;go_wp2_with fail;refine hK.out _ _ ⟨xd eb e0,xd eb e1,xd eb e2,xd yW c0,xd yW c1,xd yW c2,xd yW c3,xd yW c4,xd yW c5⟩ (fun zZ=> ?_);clear hK K;refine Qb ?_;refine Qa (rs:= [9]) (by kernel_rfl) (by simp) ?_;refine Zj.cons rfl (fun K hK=> ?_) Zj.nil;go_simp;refine hK.out _ _ ⟨xd eb e0,xd eb e1,xd eb e2,xd yW c0,xd yW c1,xd yW c2,xd yW c3,xd yW c4,xd yW c5⟩ (fun zZ=> ?_);clear hK K;refine Qb ?_;refine Qa (rs:= [10]) (by kernel_rfl) (by simp) ?_
     refine Zj.cons rfl (fun K hK=> ?_) Zj.nil;refine Gq rfl (.tmp 59) (.tmp 68) 23 rfl w1.heap.size 41 iU (.int .u64 0) 1 8 Tryz.underlying23 sK xC xB xA rfl (by decide) (.slice (some ⟨gx,0,none⟩) out.length cx) out.length (uV out) (by simp [Act.eval]) (Zf YR.out xv) ⟨w3.heap.size,0,none⟩ 1 1 [.int .u64 (ov:Int)] (by simp [Act.eval]) rfl (by exact Zm _ _ _ rfl) (fun u hu=>by rw [List.mem_singleton.1 hu];rfl) xN xJ (Qx (zR.out.trans zC.out).size (by simp)) ?_;intro v7 w7 zW zX zF;have rS:=Qq (show Ext w1 w7 from((zR.out.trans zC.out).alloc _).grown zX (fun k hk=>(YR.out.lt k hk).1))
     have qA:=Qq (show Zx w1.heap.size w7 v7 (Kd md f (k+1)) by
      rw [fJ.out,<-bI.out];unfold Zx uV;rw [List.map_append,List.length_append];exact zW)
     obtain⟨A7,c7,qZ⟩:=Qs zW;subst qZ;have kb:=(Rm zX xD.out (Qy eb zI.size)).trans (zI.block eb);have kn:=(Rm zX zA.out (Qy yW zI.size)).trans (zI.block yW);have E0:=(Yq (p:=⟨b,0,none⟩) kb).trans e0;have E1:=(Yq (p:=⟨b,1,none⟩) kb).trans e1;have E2':=(Yq (p:=⟨b,2,none⟩) kb).trans e2;have C0:=(Yq (p:=ad.add (k*6)) kn).trans c0;have C1:=(Yq (p:=⟨(ad.add (k*6)).block,(ad.add (k*6)).off+1,none⟩) kn).trans c1;have C2:=(Yq (p:=⟨(ad.add (k*6)).block,(ad.add (k*6)).off+2,none⟩) kn).trans c2;have C3:=(Yq (p:=⟨(ad.add (k*6)).block,(ad.add (k*6)).off+3,none⟩) kn).trans c3
     have C4:=(Yq (p:=⟨(ad.add (k*6)).block,(ad.add (k*6)).off+4,none⟩) kn).trans c4;have C5:=(Yq (p:=⟨(ad.add (k*6)).block,(ad.add (k*6)).off+5,none⟩) kn).trans c5;clear zW zX zF kb kn;refine hK.out _ _ ⟨E0,E1,E2',C0,C1,C2,C3,C4,C5⟩ (fun zZ=> ?_);clear hK K;refine Qb ?_;refine Yt (by kernel_rfl) rfl (fun K hK=> ?_);go_simp;refine hK.out _ _ ?_;clear hK K;refine Qb ?_;refine Ys (by kernel_rfl) ?_ _;go_wp2_with fail;go_roundw
     case rel=>exact⟨k+1,by go_num,by omega,Qq ⟨rS.out,qA.out⟩⟩
     case measure=>simp [intOf];omega
    skip
    obtain⟨ON,TZ⟩:=iN.out.1 rfl;obtain⟨ix,mL⟩:=Int.eq_ofNat_of_zero_le ON;have UF:ix < out.length:=by rw [pZ.out];omega
    have NE:(ix:Int) < (out.length:Int):=by omega
    obtain⟨gx,cpx,RU,gxl,_,_,_,mP,_⟩:=pW.out.slice (by omega);injection RU with hge1 _ hge2;subst hge1 hge2;have ox:=mP ix UF;rw [mL]at c4;obtain⟨xval,nV⟩:∃v,v=out.getD ix 0:=⟨_,rfl⟩;rw [<-nV]at ox;have cT:=Qq (show Qp xval by rw [nV];exact Yr iW.out ix);have VK:=Qq (show out.getD n.x.toNat 0=xval by rw [nV,mL];rfl);clear mP nV ON TZ;obtain⟨Y6,CY⟩:=iN.out.2 rfl;obtain⟨iy,UE⟩:=Int.eq_ofNat_of_zero_le Y6;have DL:iy < out.length:=by rw [pZ.out];omega
    have S0:(iy:Int) < (out.length:Int):=by omega
    have oy:=(pW.out.at_ (by omega)).2.2.2.2.2.1 iy DL;rw [UE]at c5;obtain⟨yv,jB⟩:∃v,v=out.getD iy 0:=⟨_,rfl⟩;rw [<-jB]at oy;have OP:=Qq (show Qp yv by rw [jB];exact Yr iW.out iy);have FI:=Qq (show out.getD n.y.toNat 0=yv by rw [jB,UE];rfl);clear jB Y6 CY;have fJ:=Qq (show Kd md f (k+1)=out++ [Uk md n xval yv] by rw [nN.out];simp only [if_true];rw [VK.out];rw [FI.out]);go_wp2_with fail;refine(Ek n.op _).mono ?_;rintro e w3 ⟨rfl,rfl⟩;rw [<-bY.out];go_wp2_with fail;refine(Ex n.op _).mono ?_;rintro e w4 ⟨rfl,rfl⟩;rw [<-bX.out];go_upto_region 15 with(fail)
    obtain⟨e0,e1,e2,eb⟩:=Zt ((zR.out.block tB.out).trans wJ.out);have wT:(Value.slice (some ⟨gx,0,none⟩) out.length cx).ownBlock≠some b:=fun e=>by
     have h1:=(pW.out.lt b e).1;have h2:=tB.out;omega
    have xD:=Qq wT;have zA:=Qq (show(Value.slice (some ⟨gx,0,none⟩) out.length cx).ownBlock≠some (ad.add (k*6)).block from fun e=>by
     have h1:=(pW.out.lt _ e).1;rw [Qr]at h1;have h2:=zL.out.size
     omega)
    clear wT;refine Yd 11 (fun w'=>w'.cell? (⟨b,0,none⟩)=some (.int .i64 md.n)/\w'.cell? (⟨b,1,none⟩)=some (.slice Av md.val.length cv)/\w'.cell? (⟨b,2,none⟩)=some (.slice Ar md.rel.length cr)/\w'.cell? (ad.add (k*6))=some (.int .i64 n.op)/\w'.cell? (⟨(ad.add (k*6)).block,(ad.add (k*6)).off+1,none⟩)=some (.int .i64 n.i)/\w'.cell? (⟨(ad.add (k*6)).block,(ad.add (k*6)).off+2,none⟩)=some (.int .i64 n.e)/\w'.cell? (⟨(ad.add (k*6)).block,(ad.add (k*6)).off+3,none⟩)=some (.int .i64 n.g)/\w'.cell? (⟨(ad.add (k*6)).block,(ad.add (k*6)).off+4,none⟩)=some (.int .i64 (ix:Int))/\w'.cell? (⟨(ad.add (k*6)).block,(ad.add (k*6)).off+5,none⟩)=some (.int .i64 (iy:Int))) (by kernel_rfl) ⟨xd eb e0,xd eb e1,xd eb e2,xd yW c0,xd yW c1,xd yW c2,xd yW c3,xd yW c4,xd yW c5⟩ (fun zZ=> ?_)
    refine utk 0 zZ ?_;refine utk 1 zZ ?_;refine utk 2 zZ ?_;refine utk 3 zZ ?_;refine utk 4 zZ ?_;refine utk 5 zZ ?_;refine utk 6 zZ ?_;refine utk 7 zZ ?_;refine Qa (rs:= [8]) (by kernel_rfl) (by simp) ?_;refine Zj.cons rfl (fun K hK=> ?_) Zj.nil;go_simp;have h1:=Qzy (.agg #[.int .i64 md.n,.slice Av md.val.length cv,.slice Ar md.rel.length cr]) md n xval yv w2.drew (HM.out.ext (vI.out.trans (Qz.drew))) zD.out tS.out mD.out cT.out OP.out;unfold Nd.val at h1;obtain⟨ov,oB⟩:∃o,o=Uk md n xval yv:=⟨_,rfl⟩;have bI:=Qq oB;rw [<-oB]at h1;clear oB;rw [mL,UE]at h1
    refine h1.mono ?_;clear h1;rintro e w3 ⟨rfl,yV⟩;have zI:Ext w2 w3:=Ext.trans (Qz.drew) yV;have zC:=Qq zI;have YR:=Qq (pW.out.ext zI);clear yV;go_wp2_with fail;refine hK.out _ _ ⟨xd eb e0,xd eb e1,xd eb e2,xd yW c0,xd yW c1,xd yW c2,xd yW c3,xd yW c4,xd yW c5⟩ (fun zZ=> ?_);clear hK K;refine Qb ?_;refine Qa (rs:= [9]) (by kernel_rfl) (by simp) ?_;refine Zj.cons rfl (fun K hK=> ?_) Zj.nil;go_simp;refine hK.out _ _ ⟨xd eb e0,xd eb e1,xd eb e2,xd yW c0,xd yW c1,xd yW c2,xd yW c3,xd yW c4,xd yW c5⟩ (fun zZ=> ?_);clear hK K;refine Qb ?_;refine Qa (rs:= [10]) (by kernel_rfl) (by simp) ?_
    refine Zj.cons rfl (fun K hK=> ?_) Zj.nil;refine Gq rfl (.tmp 59) (.tmp 68) 23 rfl w1.heap.size 41 iU (.int .u64 0) 1 8 Tryz.underlying23 sK xC xB xA rfl (by decide) (.slice (some ⟨gx,0,none⟩) out.length cx) out.length (uV out) (by simp [Act.eval]) (Zf YR.out xv) ⟨w3.heap.size,0,none⟩ 1 1 [.int .u64 (ov:Int)] (by simp [Act.eval]) rfl (by exact Zm _ _ _ rfl) (fun u hu=>by rw [List.mem_singleton.1 hu];rfl) xN xJ (Qx (zR.out.trans zC.out).size (by simp)) ?_;intro v7 w7 zW zX zF;have rS:=Qq (show Ext w1 w7 from((zR.out.trans zC.out).alloc _).grown zX (fun k hk=>(YR.out.lt k hk).1))
    have qA:=Qq (show Zx w1.heap.size w7 v7 (Kd md f (k+1)) by
     rw [fJ.out,<-bI.out];unfold Zx uV;rw [List.map_append,List.length_append];exact zW)
    obtain⟨A7,c7,qZ⟩:=Qs zW;subst qZ;have kb:=(Rm zX xD.out (Qy eb zI.size)).trans (zI.block eb);have kn:=(Rm zX zA.out (Qy yW zI.size)).trans (zI.block yW);have E0:=(Yq (p:=⟨b,0,none⟩) kb).trans e0;have E1:=(Yq (p:=⟨b,1,none⟩) kb).trans e1;have E2':=(Yq (p:=⟨b,2,none⟩) kb).trans e2;have C0:=(Yq (p:=ad.add (k*6)) kn).trans c0;have C1:=(Yq (p:=⟨(ad.add (k*6)).block,(ad.add (k*6)).off+1,none⟩) kn).trans c1;have C2:=(Yq (p:=⟨(ad.add (k*6)).block,(ad.add (k*6)).off+2,none⟩) kn).trans c2;have C3:=(Yq (p:=⟨(ad.add (k*6)).block,(ad.add (k*6)).off+3,none⟩) kn).trans c3
    have C4:=(Yq (p:=⟨(ad.add (k*6)).block,(ad.add (k*6)).off+4,none⟩) kn).trans c4;have C5:=(Yq (p:=⟨(ad.add (k*6)).block,(ad.add (k*6)).off+5,none⟩) kn).trans c5;clear zW zX zF kb kn;refine hK.out _ _ ⟨E0,E1,E2',C0,C1,C2,C3,C4,C5⟩ (fun zZ=> ?_);clear hK K;refine Qb ?_;refine Yt (by kernel_rfl) rfl (fun K hK=> ?_);go_simp;refine hK.out _ _ ?_;clear hK K;refine Qb ?_;refine Ys (by kernel_rfl) ?_ _;go_wp2_with fail;go_roundw
    case rel=>exact⟨k+1,by go_num,by omega,Qq ⟨rS.out,qA.out⟩⟩
    case measure=>simp [intOf];omega
   obtain rfl:f.length=k:=by omega
   go_wp2_with fail;go_ret2;exact⟨_,rfl,yY.out,Qq (by(try rw [if_pos rfl]);(try rw [<-lB.out]);exact Kt tJ.out zL.out.size)⟩
 have sJ:(er==0)=false:=by rw [beq_eq_false_iff_ne];exact hz
 have HZ:=Qq hz;clear hz;go_enter Tryz.func148,Tryz.ntmps148;go_wp2_with fail;refine(Qqb _ _ md f _ (HM.out.ext zK.out) zD.out (H.out.ext zK.out)).mono ?_;rintro e w1 ⟨rfl,zN⟩;rw [<-wU.out];have zL:=Qq (zK.out.trans zN);clear zN;go_wp2_with fail;go_ret2;exact⟨_,rfl,zL.out,Qq (by(try rw [if_neg HZ.out]);exact Zx.nil _ _)⟩
theorem Qne(vm v:Value)(md:Md)(f:List Nd)(w:World)(hm:MdV w vm md)(zO:md.ok)(h:Fml w v f):
 Calls Tryz.prog 78 #[vm,v] w fun e w'=>e=.returned (.tuple #[.int .u64 ((Bn md f:Nat):Int),.int .i64 (Rc md f)])/\Ext w w':=by
 have H:=Qq h;have HM:=Qq hm;have zD:=Qq zO;obtain⟨vv,vr,rfl,⟨Av,cv,rfl,_⟩,⟨Ar,cr,rfl,_⟩⟩:=hm;obtain⟨A,c,rfl,_⟩:=Qh h;clear zO h;have zK:=Qq (show Ext w (w.alloc (.cells #[.int .i64 md.n,.slice Av md.val.length cv,.slice Ar md.rel.length cr] 26))from Qz.alloc _);have vV:=Qq (show(w.alloc (.cells #[.int .i64 md.n,.slice Av md.val.length cv,.slice Ar md.rel.length cr] 26)).heap[w.heap.size]?=some (.cells #[.int .i64 md.n,.slice Av md.val.length cv,.slice Ar md.rel.length cr] 26 (0,0))from heap_alloc_new _ _);obtain⟨b,hb⟩:∃b,b=w.heap.size:=⟨_,rfl⟩;go_enter Tryz.func78,Tryz.ntmps78;go_upto_region 1 with(fail)
 obtain⟨W0,zE⟩:∃W,W=w.alloc (.cells #[.int .i64 md.n,.slice Av md.val.length cv,.slice Ar md.rel.length cr] 26):=⟨_,rfl⟩;rw [<-zE]at zK vV⊢;rw [<-hb]at vV⊢;clear hb zE;obtain⟨e0,e1,e2,eb⟩:=Zt vV.out;refine Yd 8 (fun w'=>w'.cell? (⟨b,0,none⟩)=some (.int .i64 md.n)/\w'.cell? (⟨b,1,none⟩)=some (.slice Av md.val.length cv)/\w'.cell? (⟨b,2,none⟩)=some (.slice Ar md.rel.length cr)) (by kernel_rfl) ⟨xd eb e0,xd eb e1,xd eb e2⟩ (fun zZ=> ?_);refine utk 0 zZ ?_;refine utk 1 zZ ?_;refine Qa (rs:= [2]) (by kernel_rfl) (by simp) ?_;refine Zj.cons rfl (fun K hK=> ?_) Zj.nil
 go_simp;refine(Rh _ f _ (H.out.ext (zK.out.trans xv))).mono ?_;rintro e w1 ⟨u,rfl,uY⟩;have zN:Ext W0 w1:=Ext.trans xv uY.2.2;have WT:=Qq uY.fml;have zL:=Qq (zK.out.trans zN);clear uY;go_wp2_with fail;refine hK.out _ _ ⟨xd eb e0,xd eb e1,xd eb e2⟩ (fun zZ=> ?_);clear hK K;refine Qb ?_;refine Qa (rs:= [3]) (by kernel_rfl) (by simp) ?_;refine Zj.cons rfl (fun K hK=> ?_) Zj.nil;go_simp;refine(Qei _ _ md (Qg f) _ (HM.out.ext zL.out) zD.out WT.out).mono ?_;rintro e w2 ⟨us,rfl,dM,HU⟩;have zS:Ext W0 w2:=zN.trans dM;have zR:=Qq (zL.out.trans dM)
 clear dM;obtain⟨er,vG⟩:∃er,er=Zi md (Qg f):=⟨_,rfl⟩;have wU:=Qq vG;rw [<-vG]at HU⊢;clear vG;go_wp2_with fail;refine hK.out _ _ ⟨xd eb e0,xd eb e1,xd eb e2⟩ (fun zZ=> ?_);clear hK K;refine Qb ?_;refine utk 4 zZ ?_;refine utk 5 zZ ?_;refine utk 6 zZ ?_;refine utk 7 zZ ?_;refine Yt (by kernel_rfl) rfl (fun K hK=> ?_);go_simp;refine hK.out _ _ ?_;clear hK K;refine Qb ?_;refine Ys (by kernel_rfl) ?_ _;by_cases hz:er=0
 ·subst hz;have FW:=Qq (show Zx w1.heap.size w2 us (Kd md (Qg f) (Qg f).length) by have:=HU.out;rw [if_pos rfl]at this;exact this);have qH:0 < (Qg f).length:=(Jg (Vr wU.out.symm).2.1).1;have gP:(Qg f).length<=1000:=Qx (Jg (Vr wU.out.symm).2.1).2.1 (by decide);have IY:=Qq (show Rc md f=0 by unfold Rc;rw [if_pos wU.out.symm]);have fW:=Qq (show Bn md f=(Kd md (Qg f) (Qg f).length).getD ((Qg f).length - 1) 0 by unfold Bn;rw [if_pos wU.out.symm]);have nZ:=Rg md (Qg f) (Qg f).length
  obtain⟨sl,ZX⟩:∃l,l=Kd md (Qg f) (Qg f).length:=⟨_,rfl⟩;rw [<-ZX]at FW fW nZ;rw [<-nZ]at qH gP fW;obtain⟨n,hn⟩:∃n,sl.length=n+1:=⟨sl.length - 1,by omega⟩;obtain⟨Au,cu,rfl⟩:=Qs FW.out;obtain⟨g,cp,RU,gl,_,_,_,mP,_⟩:=FW.out.slice (by omega);injection RU with hge1 _ hge2;subst hge1 hge2;have yS:=mP n (by omega);rw [hn]at fW qH⊢;clear ZX mP;go_wp2_with fail;go_ret2;exact⟨by rw [IY.out,fW.out];rfl,zR.out⟩
 have sJ:(er==0)=false:=by rw [beq_eq_false_iff_ne];exact hz
 have IY:=Qq (show Rc md f=Zi md f by unfold Rc;rw [if_neg (by rw [<-wU.out];exact hz)]);have fW:=Qq (show Bn md f=0 by unfold Bn;rw [if_neg (by rw [<-wU.out];exact hz)]);have hzn:(er !=0)=true:=by simp [bne,sJ]
 go_wp2_with fail;refine(Qqb _ _ md f _ (HM.out.ext zR.out) zD.out (H.out.ext zR.out)).mono ?_;rintro e w3 ⟨rfl,zI⟩;go_wp2_with fail;go_ret2;exact⟨by rw [IY.out,fW.out];rfl,zR.out.trans zI⟩
theorem Qz8 {a b n:Nat}(h:a < 2^n):Jv a b < 2^n:=Qvz fun i hi=>by
 rw [Gn,Bool.and_eq_true]at hi;exact Ka h hi.1
theorem Cb(n:Nat):Zs n < 2^n:=by
 unfold Zs;have:=Nat.two_pow_pos n;omega
theorem Qho {op:Int} {x y n:Nat}(hx:x < 2^n)(hy:y < 2^n):Gv op x y (Zs n) < 2^n:=by
 have h:=Nat.two_pow_pos n;unfold Gv
 repeat' split
 ·exact Cb n
 ·exact Qz8 (Cb n)
 ·exact Nat.lt_of_le_of_lt Nat.and_le_left hx
 ·exact Nat.or_lt_two_pow hx hy
 ·exact Nat.or_lt_two_pow (Qz8 (Cb n)) hy
 ·exact Qz8 (Cb n)
 exact h
theorem Qr8 {md:Md}(zT:Zq md=0) {n:Nd} {x y:Nat}(hx:x < 2^md.n.toNat)(hy:y < 2^md.n.toNat):Uk md n x y < 2^md.n.toNat:=by
 unfold Uk
 split
 ·have hb:=(Zn zT).2.2.2.2.2.1;unfold Zb at hb;rw [List.any_eq_false]at hb;rw [Qk];cases e:md.val[n.i.toNat]? with
  |none=>exact Nat.two_pow_pos _
  |some s =>
   have:=hb s (List.mem_of_getElem? e)
   simpa using this
 split
 ·exact Qho hx hy
 split
 ·exact Dh _ _
 split
 ·exact Qz8 (Cb _)
 split
 ·exact Dh _ _
 split
 ·exact Dh _ _
 exact Dh _ _
theorem Sb {l:List Nat} {b:Nat}(h:∀s∈l,s < b)(hb:0 < b)(i:Nat):l.getD i 0 < b:=by
 rw [Qk];cases e:l[i]? with
 |none=>exact hb
 |some s=>exact h s (List.mem_of_getElem? e)
theorem Qg6 {md:Md}(zT:Zq md=0)(f:List Nd):∀k,∀s∈Kd md f k,s < 2^md.n.toNat
 |0,s,hs=>by cases hs
 |k+1,s,hs=>by
  have ih:=Qg6 zT f k;have h0:=Nat.two_pow_pos md.n.toNat;rcases List.mem_append.1 hs with h|h
  ·exact ih s h
  rw [List.mem_singleton.1 h];unfold Co
  split
  ·refine Qr8 zT ?_ ?_
   ·split
    ·exact Sb ih h0 _
    exact h0
   split
   ·exact Sb ih h0 _
   exact h0
  exact h0
theorem Qj6 {md:Md} {f:List Nd}(h:Zi md (Qg f)=0):check f=0:=by
 refine Classical.byContradiction fun hn=> ?_
 have wN:=(Vr h).2.1;have:Qg f= []:=by
  unfold Qg Jn;rw [show(check f !=0)=true by simpa using hn];rfl
 rw [this]at wN;exact Qms wN
def Qya(r:List Nat)(s:Nat):Nat:=if Jw r.length r=0 then Jv (Zs r.length) (Vd r r.length (Zs 64^^^s))else 0
theorem Qtg {s:Nat}(hs:Qp s):Qp (Zs 64^^^s):=Qv1 (Vl (Nat.le_refl _)) hs
theorem Qs2 {s:Nat}(hs:Qp s):bits .xor .u64 IntKind.u64.max (s:Int)=((Zs 64^^^s:Nat):Int):=Qym (a:=Zs 64) (Vl (Nat.le_refl _)) hs
theorem Qen(v:Value)(r:List Nat)(s:Nat)(w:World)(h:Jb w v r)(hw:∀s∈r,Qp s)(hs:Qp s):
 Calls Tryz.prog 187 #[v,.int .u64 (s:Int)] w fun e w'=>e=.returned (.int .u64 ((Qya r s:Nat):Int))/\Ext w w':=by
 have H:=Qq h;obtain⟨A,c,rfl,_,_,HL⟩:=Vp h;have sM:=Qq hw;have HS:=Qq (Qtg hs);have jY:=Qq (Qs2 hs);clear h hw hs;by_cases zT:Jw r.length r=0
 ·have hn:=Dt zT;have HC:=Qq zT;have HB:=Qq (show Nq r (Zs 64^^^s)=Vd r r.length (Zs 64^^^s) by unfold Nq;rw [if_pos HC.out]);have HD:=Qq (show Qya r s=Jv (Zs r.length) (Nq r (Zs 64^^^s)) by rw [HB.out];unfold Qya;rw [if_pos HC.out]);have N9:=Qq (Vx (a:=Zs r.length) (b:=Nq r (Zs 64^^^s)) (Vl hn) (by rw [HB.out];exact Fp hn _));clear zT;go_enter Tryz.func187,Tryz.ntmps187;go_wp2_with(first|(go_at_call 113;refine(Gx _ r _ H.out sM.out).mono ?_;rintro e w1 ⟨rfl,zN⟩;rw [HC.out];have zL:=Qq zN;clear zN)|(go_at_call 115;refine(Iz r.length hn _).mono ?_;rintro e w3 ⟨rfl,rfl⟩)|(rw [jY.out];go_at_call 186;refine(Ll _ r _ _ (H.out.ext zL.out) sM.out HS.out).mono ?_;rintro e w4 ⟨rfl,yD⟩;have yI:=Qq yD;clear yD))
  go_ret;exact⟨by rw [HD.out,<-N9.out] <;> rfl,zL.out.trans yI.out⟩
 have HC:=Qq zT;have HB:=Qq (show Qya r s=0 by unfold Qya;rw [if_neg HC.out]);obtain⟨ce,cQ⟩:∃z,z=Jw r.length r:=⟨_,rfl⟩;rw [<-cQ]at zT;have zQ:(ce !=0)=true:=by simpa using zT
 have JE:=Qq cQ;clear zT cQ;go_enter Tryz.func187,Tryz.ntmps187;go_wp2_with(go_at_call 113;refine(Gx _ r _ H.out sM.out).mono ?_;rintro e w1 ⟨rfl,zN⟩;rw [<-JE.out];have zL:=Qq zN;clear zN);go_ret;exact⟨by rw [HB.out] <;> rfl,zL.out⟩
theorem Qn9(v:Value)(r:List Nat)(n c s:Nat)(w:World)(h:Jb w v r)(hw:∀s∈r,Qp s)(hl:r.length=n)(zT:Jw r.length r=0)(hc:Qp c)(hs:Qp s):
 Calls Tryz.prog 190 #[v,.int .u64 ((Zs n:Nat):Int),.int .u64 (c:Int),.int .u64 (s:Int)] w fun e w'=>e=.returned (.int .u64 ((Xx r n c s:Nat):Int))/\Ext w w':=by
 have H:=Qq h;have sM:=Qq hw;have hn:n<=64:=by rw [<-hl];exact Dt zT
 have nO:=Qq (Qvp (r:=r) (n:=n) hl (by
  have:=(Fq (l:=r)).1 (by unfold Xq;rw [zT];rfl);rw [hl]at this;exact this.2))
 have cE:=Qq (Vl hn);have HC:=Qq hc;have HS:=Qq hs;have xD:=Qq (show ∀m,Nq r m=Vd r n m from fun m=>by unfold Nq;rw [if_pos zT,hl]);have AV:=Qq (Vx (Vl hn) hc);clear h hw zT hc hs hl;go_enter Tryz.func190,Tryz.ntmps190;go_wp2_with fail;go_loopw [9] (fun v wr=>∃out:Nat,v=.int .u64 (out:Int)/\Hid (Qp out)/\Hid (Ext w wr)/\Hid ((∀i,(Xx r n c s).testBit i=true->out.testBit i=true)/\∀i,(gfF r n c s out).testBit i=true->out.testBit i=true)) (fun v _=>(intOf v).toNat)
 case atStart=>exact⟨Zs n,rfl,cE,Qq Qz,Qq ⟨Qbc nO.out,Qar nO.out⟩⟩
 case round =>
  obtain⟨out,rfl,HO,HX,HI⟩:=hrel;have AU:=Qq (Xz HS.out HO.out);have AT:=Qq (Xw (a:=Jv (Zs n) c) (b:=s&&&out) (Un cE.out) (Nr HS.out));have AC:=Qq (show Qp (Jv (Zs n) c|||(s&&&out))from Wg (Un cE.out) (Nr HS.out));obtain⟨nx,rG⟩:∃x,x=gfF r n c s out:=⟨_,rfl⟩;have zA:=Qq rG;have AQ:=Qq (show Nq r (Jv (Zs n) c|||(s&&&out))=nx by rw [xD.out,rG];rfl);have K5:=Qq (show Qp nx by rw [rG];exact Fp hn _);clear rG;by_cases hd:nx=out
  ·have UQ:((nx:Int)==(out:Int))=true:=by simp [hd]
   have HE:=Qq (Qty nO.out (by rw [<-zA.out];exact hd) HI.out.1);clear hd;go_wp2_with(rw [AV.out,AU.out,AT.out];go_at_call 186;refine(Ll _ r _ _ (H.out.ext HX.out) sM.out AC.out).mono ?_;rintro e w4 ⟨rfl,yD⟩;rw [AQ.out];have yI:=Qq yD;clear yD);go_ret;exact⟨by rw [HE.out] <;> rfl,HX.out.trans yI.out⟩
  have UQ:((nx:Int)==(out:Int))=false:=by simp only [beq_eq_false_iff_ne,ne_eq,Int.natCast_inj];exact hd
  have fS:=Qq (Zjk (by rw [zA.out];exact HI.out.2) hd);clear hd;go_wp2_with(rw [AV.out,AU.out,AT.out];go_at_call 186;refine(Ll _ r _ _ (H.out.ext HX.out) sM.out AC.out).mono ?_;rintro e w4 ⟨rfl,yD⟩;rw [AQ.out];have yI:=Qq yD;clear yD);go_roundw
  case rel=>exact⟨nx,rfl,K5,Qq (HX.out.trans yI.out),Qq (by rw [zA.out];exact⟨Qbp nO.out HI.out.1,Zzc nO.out HI.out.2⟩)⟩
  case measure=>have:=fS.out;simp [intOf];omega
theorem Qlg(v:Value)(l:List Nat)(w:World)(h:Jb w v l)(h0:0 < l.length)(uP:l.length<=64):
 Calls Tryz.prog 221 #[v] w fun e w'=>∃u,e=.returned u/\Zx w.heap.size w' u l/\Ext w w':=by
 obtain⟨A,c,rfl,_,_,HL⟩:=Vp h;obtain⟨iU,sK,xC,xB,xA⟩:=info_parts De;clear h;obtain⟨ad,rfl,zU,_⟩:=HL.out 0 h0;have tK:=Qq (show ∀(j:Nat) u,(uV l)[j]?=some u->(w.alloc (.cells #[] 41)).cell? (ad.add j)=some u from Dy fun i hi=>by
  obtain⟨ad2,e,_,hc⟩:=HL.out i hi;injection e with e;subst e;exact(((Ext.refl w).alloc _).cell (p:=ad.add i) (Qj zU)).trans hc)
 have rT:=Qq (Rk w 41);have q:∀(w:World) (a:Option Addr) (n c n' c':Nat),(binOp .eql 23 (.slice a n c) (.slice none n' c')).run Tryz.prog w=.ok (.bool a.isNone) w:=fun w a n c n' c'=>Lib.run_eql_slice_nil w _ _ a n c n' c' Tryz.underlying23
 obtain⟨n,hn⟩:∃n,n=l.length:=⟨_,rfl⟩;have HN:=Qq hn;rw [<-hn]at uP h0⊢;have uY:0+n<=maxLen:=by unfold maxLen;omega
 have xM:(0+n)*8<=140737488355328:=by omega
 clear hn;go_enter Tryz.func221,Tryz.ntmps221;go_wp2_with(at_builtin;refine wpList_append_own_at _ rfl _ _ 23 rfl w.heap.size 41 iU (.int .u64 0) 1 8 Tryz.underlying23 sK xC xB xA rfl (by decide) _ 0 [] rfl rT.out ad n c (uV l) rfl (by rw [Hj,Nat.mul_one];exact HN.out.symm) tK.out (Hy l) uY xM (by simp) ?_);intro v3 w3 xX yH _ _;have zC:=Qq (show Ext w w3 from((Ext.refl w).alloc _).grown yH (fun k hk=>by have h2:w.heap.size=k:=Option.some.inj hk;omega));have HM:=Qq (show Zx w.heap.size w3 v3 l by
  unfold Zx;rw [<-HN.out];exact xX)
 clear xX yH;obtain⟨g,cap,rfl,xO,uE,_,xI,_,_⟩:=HM.out.slice (by rw [<-HN.out];exact h0);rw [<-HN.out]at HM⊢;clear xO;go_wp2_with fail;go_ret;exact⟨_,rfl,HM.out,zC.out⟩
def Qb5(n:Nat)(meet:Bool):Nat:=if meet then Zs n else 0
def Qy6(rl:List (List Nat))(gn:Nat)(meet:Bool)(n k:Nat):List Nat:=(List.range n).map fun i=>(List.range k).foldl (Fk rl gn meet i) (Qb5 n meet)
def Tl(gn k:Nat):Bool:=(List.range k).any fun a=>gn.testBit a
def Sf(rl:List (List Nat))(gn:Nat)(meet:Bool)(n k:Nat):List Nat:=bif Tl gn k then Qy6 rl gn meet n k else []
theorem Ns(gn k:Nat):Tl gn (k+1)=(Tl gn k||gn.testBit k):=by
 unfold Tl;rw [List.range_succ,List.any_append];simp
theorem Qo4 {rl:List (List Nat)} {gn n k:Nat} {meet:Bool}(h:gn.testBit k=false):Sf rl gn meet n (k+1)=Sf rl gn meet n k:=by
 unfold Sf;rw [Ns,h,Bool.or_false]
 congr 1
 unfold Qy6;refine List.map_congr_left fun i _=> ?_
 rw [Ve];unfold Fk;rw [h];rfl
theorem Qpv {rl:List (List Nat)} {gn n k:Nat} {meet:Bool}(h:Tl gn k=false) {i:Nat} :(List.range k).foldl (Fk rl gn meet i) (Qb5 n meet)=Qb5 n meet:=by
 induction k with
 |zero=>rfl
 |succ k ih =>
  rw [Ns,Bool.or_eq_false_iff]at h;rw [Ve,ih h.1];unfold Fk;rw [h.2];rfl
theorem Qte {rl:List (List Nat)} {gn n k:Nat} {meet:Bool}(h:gn.testBit k=true)(hn:Tl gn k=false)(hl:(rl.getD k []).length=n)(vW:∀s∈rl.getD k [],s < 2^n):Sf rl gn meet n (k+1)=rl.getD k []:=by
 unfold Sf;rw [Ns,h,Bool.or_true];show Qy6 rl gn meet n (k+1)=_;refine List.ext_getElem (by rw [hl];unfold Qy6;rw [List.length_map,List.length_range]) fun i h1 h2=> ?_
 simp only [Qy6,List.getElem_map,List.getElem_range];rw [Ve,Qpv hn];unfold Fk Qb5;rw [h];have e:(rl.getD k []).getD i 0=(rl.getD k [])[i]:=by rw [Qk,Qv h2];rfl
 rw [e];have hs:=vW _ (List.getElem_mem h2);cases meet
 ·simp
 simp only [↓reduceIte];refine Nat.eq_of_testBit_eq fun j=> ?_
 rw [Nat.testBit_and,Kf];cases hj:((rl.getD k [])[i]).testBit j
 ·simp
 rw [decide_eq_true (Ka hs hj)];rfl
theorem Qad {rl:List (List Nat)} {gn n:Nat} {meet:Bool}(h1:1<=gn)(hg:gn < 2^rl.length):Sf rl gn meet n rl.length=(List.range n).map (Yz rl gn meet n):=by
 have ha:Tl gn rl.length=true:=by
  obtain⟨i,hi⟩:=Nat.exists_testBit_of_ne_zero (show gn≠0 by omega);exact List.any_eq_true.2 ⟨i,List.mem_range.2 (Ka hg hi),hi⟩
 unfold Sf;rw [ha];rfl
theorem Qy3 {rl:List (List Nat)} {gn n k:Nat} {meet:Bool}(h:Tl gn k=true):(Sf rl gn meet n k).length=n:=by
 unfold Sf;rw [h];unfold Qy6;simp
def Rj(J:Nat->Nat->Nat)(o r:List Nat)(k:Nat):List Nat:=(List.range o.length).map fun i=>if i < k then J (o.getD i 0) (r.getD i 0)else o.getD i 0
theorem Qp4(J:Nat->Nat->Nat)(o r:List Nat):Rj J o r 0=o:=by
 refine List.ext_getElem (by simp [Rj]) fun i h1 h2=> ?_
 simp only [Rj,List.getElem_map,List.getElem_range];rw [if_neg (Nat.not_lt_zero _),Qk,Qv h2];rfl
theorem Lt(J:Nat->Nat->Nat)(o r:List Nat)(k:Nat):(Rj J o r k).length=o.length:=by simp [Rj]
theorem Qa7 {J:Nat->Nat->Nat} {o r:List Nat} {k i:Nat}(hi:i < o.length):(Rj J o r k).getD i 0=if i < k then J (o.getD i 0) (r.getD i 0)else o.getD i 0:=by
 unfold Rj;rw [Qk,List.getElem?_map,List.getElem?_range hi];rfl
theorem Qp3 {J:Nat->Nat->Nat} {o r:List Nat} {k:Nat}(_hk:k < o.length):(Rj J o r k).set k (J (o.getD k 0) (r.getD k 0))=Rj J o r (k+1):=by
 refine List.ext_getElem (by simp [Rj]) fun i h1 h2=> ?_
 have hi:i < o.length:=by rw [Lt]at h2;exact h2
 rw [List.getElem_set]
 split
 ·rename_i e;subst e;simp only [Rj,List.getElem_map,List.getElem_range];rw [if_pos (Nat.lt_succ_self _)]
 rename_i e;simp only [Rj,List.getElem_map,List.getElem_range];by_cases h3:i < k
 ·rw [if_pos h3,if_pos (by omega)]
 rw [if_neg h3,if_neg (by omega)]
theorem Qpz {rl:List (List Nat)} {gn n k:Nat} {meet:Bool}(h:gn.testBit k=true)(hn:Tl gn k=true):Rj (fun x y=>if meet then x&&&y else x|||y) (Sf rl gn meet n k) (rl.getD k []) n=Sf rl gn meet n (k+1):=by
 have hl:=Qy3 (rl:=rl) (n:=n) (meet:=meet) hn;refine List.ext_getElem (by rw [Lt,hl,Qy3 (by rw [Ns,hn];rfl)]) fun i h1 h2=> ?_
 have hi:i < n:=by rw [Lt,hl]at h1;exact h1
 simp only [Rj,List.getElem_map,List.getElem_range,Sf,Ns,hn,Bool.true_or,cond_true,Qy6];rw [if_pos hi,Ve,Qk,List.getElem?_map,List.getElem?_range hi];simp only [Option.map_some,Option.getD_some];unfold Fk;rw [h];cases meet <;> rfl
theorem Qz2 {w:World} {b:Nat} {a0 a1 a2:Value} {t:TypeId}(h:w.heap[b]?=some (.cells #[a0,a1,a2] t (0,0))):w.cell? ⟨b,0,none⟩=some a0/\w.cell? ⟨b,1,none⟩=some a1/\w.cell? ⟨b,2,none⟩=some a2/\b < w.heap.size :=
 ⟨by simp [World.cell?,h],by simp [World.cell?,h],by simp [World.cell?,h],Qf h⟩
theorem Qyk(meet:Bool)(g:Nat)(eg:∀args w,(callFunc g args).run Tryz.prog w=.ok (.enter g args) w)(v:Value)(md:Md)(gn:Nat)(w:World)(h:MdV w v md)(zO:md.ok)(zT:Zq md=0)(vL:1<=gn)(hg:gn < 2^md.rel.length)
 (hJ:∀(W:World) (x y:Nat),Qp x->Qp y->Calls Tryz.prog g #[.int .u64 (x:Int),.int .u64 (y:Int)] W fun e w'=>e=.returned (.int .u64 ((if meet then x&&&y else x|||y:Nat):Int))/\W=w'):
 Calls Tryz.prog 209 #[v,.int .i64 (gn:Int),.func (.func g) #[] #[]] w fun e w'=>∃u,e=.returned u/\Ext w w'/\Zx w.heap.size w' u ((List.range md.n.toNat).map (Yz md.rel gn meet md.n.toNat)):=by
 have H:=Qq h;have zD:=Qq zO;have xV:=Qq zT;have HJ:=Qq hJ;obtain⟨vR,yN,uC,_,uX,_,vW⟩:=Zn zT;obtain⟨vv,vr,rfl,hv,hr⟩:=h;obtain⟨Av,cv,rfl,_⟩:=hv;obtain⟨Ar,cr,rfl,dV,TH,HR⟩:=Ge hr;obtain⟨n,uM⟩:=Int.eq_ofNat_of_zero_le (show 0<=md.n by omega);rw [uM]at vR yN H uX vW⊢;have cK:((n:Nat):Int).toNat=n:=Int.toNat_natCast n;rw [cK]at vW⊢;have eE:n<=64:=by omega
 have pH:0 < n:=by omega
 have uO:=decide_eq_false (Qzs uC hg);have NP:¬(gn:Int) < 1:=by omega
 have wD:min md.rel.length 64=md.rel.length:=by omega
 obtain⟨rl,wC⟩:∃l,l=md.rel:=⟨_,rfl⟩;have fL:=Qq (show ∀r∈rl,∀s∈r,Qp s by rw [wC];exact zO.rel);have bD:=Qq (show ∀r∈rl,r.length=n by rw [wC];exact fun r hr=>by have:=uX r hr;omega);have xT:=Qq (show ∀r∈rl,Zb r n=false by rw [wC];exact vW);rw [<-wC]at HR dV uC uO wD hg⊢;have UJ:gn < 9223372036854775808:=by have:(2:Nat)^rl.length<=2^4:=Nat.pow_le_pow_right (by omega) uC;omega
 have N0:=Qq (Qad (rl:=rl) (n:=n) (meet:=meet) vL hg);have zK:=Qq (show Ext w (w.alloc (.cells #[.int .i64 (n:Int),.slice Av md.val.length cv,.slice Ar rl.length cr] 26))from Qz.alloc _);have vV:=Qq (show(w.alloc (.cells #[.int .i64 (n:Int),.slice Av md.val.length cv,.slice Ar rl.length cr] 26)).heap[w.heap.size]?=some (.cells #[.int .i64 (n:Int),.slice Av md.val.length cv,.slice Ar rl.length cr] 26 (0,0))from heap_alloc_new _ _);have H2:=Qq (show MdV w (.agg #[.int .i64 (n:Int),.slice Av md.val.length cv,.slice Ar rl.length cr]) md by rw [wC];exact H.out);clear hr zO zT uM wC hg uX cK H vL hJ vW
 go_enter Tryz.func209,Tryz.ntmps209;go_wp2_with(go_at_call 93;refine(Xs _ md _ (H2.out.ext zK.out) zD.out).mono ?_;rintro e w1 ⟨rfl,zN⟩;rw [xV.out];have zL:=Qq (zK.out.trans zN);have wJ:=Qq ((zN.block (Qf vV.out)).trans vV.out);obtain⟨e0,e1,e2,eb⟩:=Qz2 wJ.out;clear zN);clear e0 e1 e2 eb;go_loopw [7,29] (fun vo vi wr=>∃k:Nat,vi=.int .i64 (k:Int)/\k<=rl.length/\Hid (Ext w1 wr/\Zx w1.heap.size wr vo (Sf rl gn meet n k)/\(Tl gn k=false->vo=.slice none 0 0))) (fun _ v _=>rl.length - (intOf v).toNat)
 case atStart=>exact⟨0,rfl,Nat.zero_le _,Qq ⟨Qz,Zx.nil _ _,fun _=>rfl⟩⟩
 case round =>
  obtain⟨k,rfl,hk,zY⟩:=hrel;have HX:=Qq zY.out.1;have HM:=Qq zY.out.2.1;have fO:=Qq zY.out.2.2;obtain⟨e0,e1,e2,eb⟩:=Qz2 ((HX.out.block (Qf wJ.out)).trans wJ.out);clear zY;by_cases hlt2:k < rl.length
  ·have yP:(k:Int) < (rl.length:Int):=by omega
   have eF:min k 64=k:=by omega
   obtain⟨ad,u,rfl,zU,yS,hu⟩:=HR.out k hlt2;have wK:rl.getD k []∈rl:=by rw [Qk,Qv hlt2];exact List.getElem_mem hlt2
   have yQ:(rl.getD k []).length=n:=bD.out _ wK;have rQ:=Qq (zL.out.trans HX.out);have a0:=(rQ.out.cell (p:=ad.add k) (Qj zU)).trans yS;have al:(ad.add k).block < wr.heap.size:=by rw [Qr];exact Qy zU rQ.out.size
   have HU:=Qq (hu.ext rQ.out);have tJ:=Qq (fL.out _ wK);have GH:=Qq (show ∀s∈rl.getD k [],s < 2^n from fun s hs=>by
    have:=List.any_eq_false.1 (xT.out _ wK) s hs
    simpa using this)
   have tP:=Wr gn k UJ;have q:∀(w:World) (a:Option Addr) (n c n' c':Nat),(binOp .eql 23 (.slice a n c) (.slice none n' c')).run Tryz.prog w=.ok (.bool a.isNone) w:=fun w a n c n' c'=>Lib.run_eql_slice_nil w _ _ a n c n' c' Tryz.underlying23
   obtain⟨Au,cu,rfl,_,_,cV⟩:=Vp hu;rw [yQ]at cV;clear yS;cases yB:gn.testBit k
   ·rw [yB]at tP;have zA:=Qq (Qo4 (rl:=rl) (n:=n) (meet:=meet) yB);have LE:=Qq (show Tl gn (k+1)=Tl gn k by rw [Ns,yB,Bool.or_false]);clear yB;go_wp2_with fail;go_roundw
    case rel=>exact⟨k+1,by go_num,by omega,Qq ⟨HX.out,by rw [zA.out];exact HM.out,by rw [LE.out];exact fO.out⟩⟩
    case measure=>simp [intOf];omega
   rw [yB]at tP;have LE:=Qq (show Tl gn (k+1)=true by rw [Ns,yB,Bool.or_true]);cases qS:Tl gn k
   ·have zA:=Qq (Qte (rl:=rl) (n:=n) (meet:=meet) yB qS yQ GH.out);obtain rfl:=fO.out qS;clear yB qS;rw [yQ]at HU a0;go_wp2_with(go_at_call 221;refine(Qlg _ (rl.getD k []) _ HU.out (by rw [yQ];exact pH) (by rw [yQ];exact eE)).mono ?_;rintro e w5 ⟨u5,rfl,MQ,xF⟩;have YW:=Qq (Kt MQ HX.out.size);have yE:=Qq (HX.out.trans xF);clear MQ xF);go_roundw
    case rel=>exact⟨k+1,by go_num,by omega,Qq ⟨yE.out,by rw [zA.out];exact YW.out,fun h=>by rw [LE.out]at h;cases h⟩⟩
    case measure=>simp [intOf];omega
   have zA:=Qq (Qpz (rl:=rl) (n:=n) (meet:=meet) yB qS);have tG:=Qy3 (rl:=rl) (n:=n) (meet:=meet) qS;obtain⟨o,ho⟩:∃o,o=Sf rl gn meet n k:=⟨_,rfl⟩;rw [<-ho]at HM zA tG;have iW:=Qq (show ∀s∈o,Qp s by
    rw [ho];unfold Sf;rw [qS];intro s hs;obtain⟨i,_,rfl⟩:=List.mem_map.1 hs;exact Ft (fun s a h=>Hh fL.out h) _ _ (by unfold Qb5;cases meet;exact(show(0:Nat) < _ by omega);exact Vl eE))
   obtain⟨g0,cap,rfl,_,uE,_,_,_,_⟩:=HM.out.slice (by rw [tG];exact pH);rw [tG]at HM⊢;clear yB qS ho;obtain⟨r0,dX⟩:∃r,r=rl.getD k []:=⟨_,rfl⟩;have hr0l:r0.length=n:=by rw [dX];exact yQ
   have bG:=Qq dX;rw [<-dX]at tJ zA cV yQ a0;rw [yQ]at a0;clear dX;obtain⟨wq,vD⟩:∃v,v=wr:=⟨_,rfl⟩;subst vD;go_wp2_with fail;clear e0 e1 e2 eb a0 al;have I0:=Qq (zL.out.trans HX.out);go_loopw [45] (fun vi wr=>∃i:Nat,vi=.int .i64 (i:Int)/\i<=n/\Hid (Ext w1 wr/\Ext w wr/\Zx w1.heap.size wr (.slice (some ⟨g0,0,none⟩) n cap) (Rj (fun x y=>if meet then x&&&y else x|||y) o r0 i))) (fun v _=>n - (intOf v).toNat)
   case atStart=>exact⟨0,rfl,Nat.zero_le _,Qq ⟨HX.out,I0.out,by rw [Qp4];exact HM.out⟩⟩
   case round =>
    obtain⟨i,rfl,hi,zY⟩:=hrel;have FN:=Qq zY.out.1;have yY:=Qq zY.out.2.1;have uK:=Qq zY.out.2.2;clear zY;by_cases yK:i < n
    ·have iJ:(i:Int) < (n:Int):=by omega
     obtain⟨-,cl,-,-,-,wN,oF⟩:=uK.out.at_ (by rw [Lt,tG];exact pH);have c0:=wN i (by rw [Lt,tG];exact yK);have f0:=oF i;rw [Qa7 (by rw [tG];exact yK),if_neg (Nat.lt_irrefl _)]at c0;obtain⟨ud,rfl,tU,rX⟩:=cV.out i yK;have d0:=(yY.out.cell (p:=ud.add i) (Qj tU)).trans rX;have dl:(ud.add i).block < wr.heap.size:=by rw [Qr];exact Qy tU yY.out.size
     have OQ:=Qq (Yr iW.out i);have OO:=Qq (Yr tJ.out i);have yX:=Qq (Qp3 (J:=fun x y=>if meet then x&&&y else x|||y) (o:=o) (r:=r0) (k:=i) (by rw [tG];exact yK));obtain⟨x,hx⟩:∃x,x=o.getD i 0:=⟨_,rfl⟩;obtain⟨y,hy⟩:∃y,y=r0.getD i 0:=⟨_,rfl⟩;rw [<-hx]at c0 OQ yX;rw [<-hy]at d0 OO yX;obtain⟨z,hz⟩:∃z,z=(if meet then x&&&y else x|||y):=⟨_,rfl⟩;have L8:=Qq (show ∀W:World,Calls Tryz.prog g #[.int .u64 (x:Int),.int .u64 (y:Int)] W fun e w'=>e=.returned (.int .u64 (z:Int))/\W=w' from fun W=>by rw [hz];exact HJ.out W x y OQ.out OO.out);have SG:=Qq (show(Rj (fun x y=>if meet then x&&&y else x|||y) o r0 i).set i z=Rj (fun x y=>if meet then x&&&y else x|||y) o r0 (i+1) by rw [hz];exact yX.out)
     clear wN oF rX hx hy hz yX;go_upto_region 13 with(fail);refine Yd 13 (fun w'=>w'.cell? (⟨g0,i,none⟩)=some (.int .u64 (x:Int))/\w'.cell? (ud.add i)=some (.int .u64 (y:Int))) (by kernel_rfl) ⟨xd cl c0,xd dl d0⟩ (fun zZ=> ?_);refine utk 0 zZ ?_;refine utk 1 zZ ?_;refine utk 2 zZ ?_;refine utk 3 zZ ?_;refine utk 4 zZ ?_;refine utk 5 zZ ?_;refine utk 6 zZ ?_;refine utk 7 zZ ?_;refine utk 8 zZ ?_;refine utk 9 zZ ?_;refine utk 10 zZ ?_;refine Qa (rs:= [11]) (by kernel_rfl) (by simp) ?_;refine Zj.cons rfl (fun K hK=> ?_) Zj.nil;go_simp;refine(L8.out _).mono ?_
     rintro e w9 ⟨rfl,rfl⟩;go_wp2_with fail;refine hK.out _ _ ⟨xd cl c0,xd dl d0⟩ (fun zZ=> ?_);clear hK K;refine Qb ?_;refine utk 12 zZ ?_;refine Yt (by kernel_rfl) rfl (fun K hK=> ?_);go_simp;refine hK.out _ _ ?_;clear hK K;refine Qb ?_;refine Ys (by kernel_rfl) ?_ _;have jV:=Qq (uK.out.set (by rw [Lt,tG]) i z);rw [SG.out]at jV;have cU:=Qq (FN.out.setCell (p:=⟨g0,i,none⟩) uE (.int .u64 ((z:Nat):Int)));have I8:=Qq (yY.out.setCell (p:=⟨g0,i,none⟩) (Qx zL.out.size uE) (.int .u64 ((z:Nat):Int)));clear c0 f0 d0 cl dl FN yY uK;go_wp2_with fail;go_roundw
     case rel=>exact⟨i+1,by go_num,by omega,Qq ⟨cU.out.drew,I8.out.drew,jV.out.ext (Qz.drew)⟩⟩
     case measure=>simp [intOf];omega
    obtain rfl:n=i:=by omega
    go_wp2_with fail;go_roundw
    case rel=>exact⟨k+1,by go_num,by omega,Qq ⟨FN.out,by rw [<-zA.out];exact uK.out,fun h=>by rw [LE.out]at h;cases h⟩⟩
    case measure=>simp [intOf];omega
  obtain rfl:rl.length=k:=by omega
  go_wp2_with fail;go_ret;exact⟨_,rfl,zL.out.trans HX.out,by rw [<-N0.out];exact Kt HM.out zL.out.size⟩
theorem Qiw(W:World)(x y:Nat)(hx:Qp x)(hy:Qp y):Calls Tryz.prog 211 #[.int .u64 (x:Int),.int .u64 (y:Int)] W fun e w'=>e=.returned (.int .u64 ((if false then x&&&y else x|||y:Nat):Int))/\W=w':=by
 have HB:=Qq (Xw hx hy);clear hx hy;go_enter Tryz.func211,Tryz.ntmps211;go_wp2_with fail;go_ret;exact⟨by rw [<-HB.out] <;> rfl,rfl⟩
theorem Qed(W:World)(x y:Nat)(hx:Qp x)(hy:Qp y):Calls Tryz.prog 210 #[.int .u64 (x:Int),.int .u64 (y:Int)] W fun e w'=>e=.returned (.int .u64 ((if true then x&&&y else x|||y:Nat):Int))/\W=w':=by
 have HB:=Qq (Xz hx hy);clear hx hy;go_enter Tryz.func210,Tryz.ntmps210;go_wp2_with fail;go_ret;exact⟨by rw [<-HB.out] <;> rfl,rfl⟩
theorem Qki(v:Value)(md:Md)(gn:Nat)(w:World)(h:MdV w v md)(zO:md.ok)(zT:Zq md=0)(vL:1<=gn)(hg:gn < 2^md.rel.length):
 Calls Tryz.prog 189 #[v,.int .i64 (gn:Int)] w fun e w'=>∃u,e=.returned u/\Ext w w'/\Jb w' u ((List.range md.n.toNat).map (Yz md.rel gn false md.n.toNat)):=by
 have H:=Qq h;have zD:=Qq zO;have HC:=Qq zT;have eg:∀args w,(callFunc 211 args).run Tryz.prog w=.ok (.enter 211 args) w:=fun _ _=>rfl
 have HG:=Qq (fun(w:World) (h:MdV w v md)=>Qyk false 211 eg v md gn w h zO zT vL hg Qiw);obtain⟨vv,vr,rfl,hv,hr⟩:=h;clear zO zT eg hv hr;go_enter Tryz.func189,Tryz.ntmps189;go_wp2_with(go_at_call 209;refine(HG.out _ (H.out.ext ((Ext.refl w).alloc _))).mono ?_;rintro e w1 ⟨u,rfl,hx,hm⟩;have HX:=Qq (((Ext.refl w).alloc _).trans hx);have HM:=Qq hm;clear hx hm);go_ret;exact⟨_,rfl,HX.out,HM.out.u64s⟩
theorem Qct(v:Value)(md:Md)(gn:Nat)(w:World)(h:MdV w v md)(zO:md.ok)(zT:Zq md=0)(vL:1<=gn)(hg:gn < 2^md.rel.length):
 Calls Tryz.prog 188 #[v,.int .i64 (gn:Int)] w fun e w'=>∃u,e=.returned u/\Ext w w'/\Jb w' u ((List.range md.n.toNat).map (Yz md.rel gn true md.n.toNat)):=by
 have H:=Qq h;have zD:=Qq zO;have HC:=Qq zT;have eg:∀args w,(callFunc 210 args).run Tryz.prog w=.ok (.enter 210 args) w:=fun _ _=>rfl
 have HG:=Qq (fun(w:World) (h:MdV w v md)=>Qyk true 210 eg v md gn w h zO zT vL hg Qed);obtain⟨vv,vr,rfl,hv,hr⟩:=h;clear zO zT eg hv hr;go_enter Tryz.func188,Tryz.ntmps188;go_wp2_with(go_at_call 209;refine(HG.out _ (H.out.ext ((Ext.refl w).alloc _))).mono ?_;rintro e w1 ⟨u,rfl,hx,hm⟩;have HX:=Qq (((Ext.refl w).alloc _).trans hx);have HM:=Qq hm;clear hx hm);go_ret;exact⟨_,rfl,HX.out,HM.out.u64s⟩
end Go.Proofs.YtkmclcmnoicagaaGreatDoor
