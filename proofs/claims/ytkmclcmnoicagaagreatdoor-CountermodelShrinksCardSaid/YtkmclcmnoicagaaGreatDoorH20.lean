/- The reference's checker: Sets, the walk. -/
import Derived.Test.YtkmclcmnoicagaaGreatDoorH18
import Derived.Test.YtkmclcmnoicagaaGreatDoorH19
namespace Go.Proofs.YtkmclcmnoicagaaGreatDoor
set_option maxRecDepth 100000
set_option maxHeartbeats 128000000
open Go.RowKit
theorem Qok(vm v:Value)(md:Md)(f:List Nd)(w:World)(hm:Jk w vm md)(zP:md.ok)(h:Yq w v f):
 Calls Tryz.prog 148 #[vm,v] w fun e w'=>∃u,e=.returned (.tuple #[u,.int .i64 (Jz md f)])/\Qg w w'/\Hid (Zf w.heap.size w' u (if Jz md f=0 then Ka md f f.length else [])):=by
 have H:=Qq h;have HM:=Qq hm;have zE:=Qq zP;obtain⟨iU,sG,xF,xE,xD⟩:=info_parts Dx;obtain⟨vv,vr,rfl,⟨Av,cv,rfl,_⟩,⟨Ar,cr,rfl,_⟩⟩:=hm;obtain⟨⟨A,c,rfl,hfc,nN,zM⟩,_⟩:=h;have uA:=Qq zM;unfold maxLen at nN;clear zP zM;have zL:=Qq (show Qg w (w.alloc (.cells #[.int .i64 md.n,.slice Av md.val.length cv,.slice Ar md.rel.length cr] 26))from Qz.alloc _);have wL:=Qq (show(w.alloc (.cells #[.int .i64 md.n,.slice Av md.val.length cv,.slice Ar md.rel.length cr] 26)).heap[w.heap.size]?=some (.cells #[.int .i64 md.n,.slice Av md.val.length cv,.slice Ar md.rel.length cr] 26 (0,0))from heap_alloc_new _ _)
 obtain⟨er,uK⟩:∃er,er=Jz md f:=⟨_,rfl⟩;have wK:=Qq uK;rw [<-uK];clear uK;by_cases hz:er=0
 ·subst hz;obtain⟨xY,ZD,_,_⟩:=Vm wK.out.symm;have uY:=Qq xY;have bR:=Qq ZD;obtain⟨wU,yZ,uR,iJ,_,_,_⟩:=Zv xY;have aI:=Qq (show md.n.toNat<=64 by omega);have JE:=Qq uR;have gO:=(Jf ZD).2.1;clear xY ZD wU yZ uR iJ;go_enter Tryz.func148,Tryz.ntmps148;go_wp2_with fail;refine(Qz4 _ _ md f _ (HM.out.ext zL.out) zE.out (H.out.ext zL.out)).mono ?_;rintro e w1 ⟨rfl,zN⟩;rw [<-wK.out];have zO:=Qq (zL.out.trans zN);have wT:=Qq ((zN.block (Qn wL.out)).trans wL.out);obtain⟨b,hb⟩:∃b,b=w.heap.size:=⟨_,rfl⟩;rw [<-hb]at wT⊢;have sM:=Qq (show b < w1.heap.size from Qn wT.out)
  clear zN wL hb;go_wp2_with fail;go_loopw [7,8] (fun vo vi wr=>∃k:Nat,vi=.int .i64 (k:Int)/\k<=f.length/\Hid (Qg w1 wr/\Zf w1.heap.size wr vo (Ka md f k))) (fun _ v _=>f.length - (intOf v).toNat)
  case atStart=>exact⟨0,rfl,Nat.zero_le _,Qq ⟨Qz,Zf.nil _ _⟩⟩
  case round =>
   obtain⟨k,rfl,hk,zY⟩:=hrel;have HX:=Qq zY.out.1;have tM:=Qq zY.out.2;obtain⟨out,yF⟩:∃o,o=Ka md f k:=⟨_,rfl⟩;have sZ:out.length<=f.length:=by rw [yF,Sj];exact hk
   have pK:=Qq (show out.length=k by rw [yF,Sj]);have kK:=Qq (show ∀s∈out,Qm s by rw [yF];exact Qgz zE.out aI.out f k);have kL:=Qq yF;rw [<-yF]at tM;obtain⟨Ax,cx,rfl⟩:=Qt tM.out;obtain⟨e0,e1,e2,eb⟩:=Zy ((HX.out.block sM.out).trans wT.out);have yY:=Qq (zO.out.trans HX.out);clear zY yF;by_cases hlt2:k < f.length
   ·have yV:(k:Int) < (f.length:Int):=by omega
    have xS:out.length+1<=maxLen:=by unfold maxLen;omega
    have xP:(out.length+1)*8<=140737488355328:=by omega
    obtain⟨wq,vC⟩:∃v,v=wr:=⟨_,rfl⟩;subst vC;obtain⟨ft,MG⟩:∃t,t=Hf md f (k:Int):=⟨_,rfl⟩;have VG:=Qq MG;clear MG;go_wp2_with fail;refine(Qlw _ _ md f (k:Int) _ (HM.out.ext yY.out) (H.out.ext yY.out)).mono ?_;rintro e w2 ⟨rfl,zS⟩;rw [<-VG.out];have zT:=Qq (HX.out.trans zS);have lJ:=Qq (tM.out.ext zS);have uM:=Qq (yY.out.trans zS);clear zS e0 e1 e2 eb;cases ft
    ·have mZ:=Qq (show Ka md f (k+1)=out++ [0] by
      show Ka md f k++ [Ew md f (Ka md f k) k]=_;rw [<-kL.out];unfold Ew;rw [<-VG.out]
      rfl)
     go_wp2_with(at_builtin;refine wpList_append_own_at _ rfl _ _ 23 rfl w1.heap.size 41 iU (.int .u64 0) 1 8 Tryz.underlying23 sG xF xE xD rfl (by decide) _ out.length (uV out) rfl (Zg lJ.out (Qz.alloc _)) ⟨_,0,none⟩ 1 1 [.int .u64 0] rfl rfl (Zt _ _ _ (by simp)) (fun u hu=>by rw [List.mem_singleton.1 hu];rfl) xS xP (Qx zT.out.size (by simp)) ?_);intro v7 w7 zW zX _ _;have sL:=Qq (show Qg w1 w7 from(zT.out.alloc _).grown zX (fun k hk=>(lJ.out.lt k hk).1));have pL:=Qq (show Zf w1.heap.size w7 v7 (Ka md f (k+1)) by
      rw [mZ.out];unfold Zf uV;rw [List.map_append,List.length_append];exact zW)
     obtain⟨A7,c7,rfl⟩:=Qt zW;clear zW zX;go_wp2_with fail;go_roundw
     case rel=>exact⟨k+1,by go_num,by omega,Qq ⟨sL.out,pL.out⟩⟩
     case measure=>simp [intOf];omega
    obtain⟨n,hn⟩:∃n,f[k]?=some n:=⟨_,Qv hlt2⟩;have jF:=Qq (Qxn bR.out hn VG.out.symm JE.out);have kM:=Qq (show f.getD k Nd.zero=n by rw [Qk,hn];rfl);have gS:=Qq (Yt bR.out k n hn);obtain⟨ad,rfl,zV,zH⟩:=uA.out (by intro e;rw [e]at hlt2;simp at hlt2);have hH:=Qq (zH k n hn);obtain⟨c0,c1,c2,c3,c4,c5⟩:=(zH k n hn).keep fun p hp=>uM.out.cell (p:=p) (by rw [hp,Qr];exact zV)
    have xL:(ad.add (k*6)).block < w2.heap.size:=by rw [Qr];exact Qy zV uM.out.size
    have mZ:=Qq (show Ka md f (k+1)=out++ [Fq md n (if Zq n.op then out.getD n.x.toNat 0 else 0) (if Qw n.op then out.getD n.y.toNat 0 else 0)] by
     show Ka md f k++ [Ew md f (Ka md f k) k]=_;rw [<-kL.out];unfold Ew;rw [<-VG.out,kM.out]
     rfl)
    clear hn zH;obtain⟨bx,vE⟩:∃t,t=Zq n.op:=⟨_,rfl⟩;obtain⟨by_,qD⟩:∃t,t=Qw n.op:=⟨_,rfl⟩;have PG:=Qq vE;have PF:=Qq qD;rw [<-vE,<-qD]at mZ gS;clear vE qD;have vE:(Value.slice Ax out.length cx).ownBlock≠some b:=fun e=>by
     have h1:=(lJ.out.lt b e).1;have h2:=sM.out;omega
    have wC:=Qq vE;have zD:=Qq (show(Value.slice Ax out.length cx).ownBlock≠some (ad.add (k*6)).block from fun e=>by
     have h1:=(lJ.out.lt _ e).1;rw [Qr]at h1;have h2:=zO.out.size
     omega)
    clear vE;cases bx
    case' false =>
     cases by_
     case' true=>(have K0:=Vl PF.out.symm;rw [<-PG.out]at K0;cases K0)
     obtain⟨xval,nE⟩:∃v:Nat,v=0:=⟨_,rfl⟩;have XH:=Qq (show Qm xval by rw [nE];show(0:Nat) < _;omega);obtain⟨yv,iG⟩:∃v:Nat,v=0:=⟨_,rfl⟩;have DV:=Qq (show Qm yv by rw [iG];show(0:Nat) < _;omega);have UG:=Qq (show Ka md f (k+1)=out++ [Fq md n xval yv] by rw [mZ.out];simp only [if_false,Bool.false_eq_true];rw [nE];rw [iG]);have HXZ:=Qq nE;clear nE;have DT:=Qq iG;clear iG
    case' true =>
     cases by_
     case' false =>
      obtain⟨NE,SJ⟩:=gS.out.1 rfl;obtain⟨ix,lT⟩:=Int.eq_ofNat_of_zero_le NE;have SQ:ix < out.length:=by rw [pK.out];omega
      have LV:(ix:Int) < (out.length:Int):=by omega
      obtain⟨gx,cpx,QJ,gxl,_,_,_,lW,_⟩:=lJ.out.slice (by omega);injection QJ with hge1 _ hge2;subst hge1 hge2;have ox:=lW ix SQ;rw [lT]at c4;obtain⟨xval,nE⟩:∃v,v=out.getD ix 0:=⟨_,rfl⟩;rw [<-nE]at ox;have XH:=Qq (show Qm xval by rw [nE];exact Yx kK.out ix);have TW:=Qq (show out.getD n.x.toNat 0=xval by rw [nE,lT];rfl);clear lW nE NE SJ;obtain⟨yv,iG⟩:∃v:Nat,v=0:=⟨_,rfl⟩;have DV:=Qq (show Qm yv by rw [iG];show(0:Nat) < _;omega);have UG:=Qq (show Ka md f (k+1)=out++ [Fq md n xval yv] by rw [mZ.out];simp only [if_true,if_false,Bool.false_eq_true];rw [TW.out];rw [iG])
      have DT:=Qq iG;clear iG
     case' true =>
      obtain⟨NE,SJ⟩:=gS.out.1 rfl;obtain⟨ix,lT⟩:=Int.eq_ofNat_of_zero_le NE;have SQ:ix < out.length:=by rw [pK.out];omega
      have LV:(ix:Int) < (out.length:Int):=by omega
      obtain⟨gx,cpx,QJ,gxl,_,_,_,lW,_⟩:=lJ.out.slice (by omega);injection QJ with hge1 _ hge2;subst hge1 hge2;have ox:=lW ix SQ;rw [lT]at c4;obtain⟨xval,nE⟩:∃v,v=out.getD ix 0:=⟨_,rfl⟩;rw [<-nE]at ox;have XH:=Qq (show Qm xval by rw [nE];exact Yx kK.out ix);have TW:=Qq (show out.getD n.x.toNat 0=xval by rw [nE,lT];rfl);clear lW nE NE SJ;obtain⟨R7,BG⟩:=gS.out.2 rfl;obtain⟨iy,SP⟩:=Int.eq_ofNat_of_zero_le R7;have CB:iy < out.length:=by rw [pK.out];omega
      have M7:(iy:Int) < (out.length:Int):=by omega
      have oy:=(lJ.out.at_ (by omega)).2.2.2.2.2.1 iy CB;rw [SP]at c5;obtain⟨yv,iG⟩:∃v,v=out.getD iy 0:=⟨_,rfl⟩;rw [<-iG]at oy;have DV:=Qq (show Qm yv by rw [iG];exact Yx kK.out iy);have DU:=Qq (show out.getD n.y.toNat 0=yv by rw [iG,SP];rfl);clear iG R7 BG;have UG:=Qq (show Ka md f (k+1)=out++ [Fq md n xval yv] by rw [mZ.out];simp only [if_true];rw [TW.out];rw [DU.out])
    all_goals
     go_wp2_with fail;refine(Qbx n.op _).mono ?_;rintro e w3 ⟨rfl,rfl⟩;rw [<-PG.out];go_wp2_with fail;refine(Qbg n.op _).mono ?_;rintro e w4 ⟨rfl,rfl⟩;rw [<-PF.out];go_upto_region 15 with(fail);obtain⟨e0,e1,e2,eb⟩:=Zy ((zT.out.block sM.out).trans wT.out);refine Ym 11 (fun w'=>w'.cell? (⟨b,0,none⟩)=some (.int .i64 md.n)/\w'.cell? (⟨b,1,none⟩)=some (.slice Av md.val.length cv)/\w'.cell? (⟨b,2,none⟩)=some (.slice Ar md.rel.length cr)/\w'.cell? (ad.add (k*6))=some (.int .i64 n.op)/\w'.cell? (⟨(ad.add (k*6)).block,(ad.add (k*6)).off+1,none⟩)=some (.int .i64 n.i)/\w'.cell? (⟨(ad.add (k*6)).block,(ad.add (k*6)).off+2,none⟩)=some (.int .i64 n.e)/\w'.cell? (⟨(ad.add (k*6)).block,(ad.add (k*6)).off+3,none⟩)=some (.int .i64 n.g)/\w'.cell? (⟨(ad.add (k*6)).block,(ad.add (k*6)).off+4,none⟩)=some (.int .i64 _)/\w'.cell? (⟨(ad.add (k*6)).block,(ad.add (k*6)).off+5,none⟩)=some (.int .i64 _)) (by kernel_rfl) ⟨xd eb e0,xd eb e1,xd eb e2,xd xL c0,xd xL c1,xd xL c2,xd xL c3,xd xL c4,xd xL c5⟩ (fun zZ=> ?_)
     refine Qo 0 zZ ?_;refine Qo 1 zZ ?_;refine Qo 2 zZ ?_;refine Qo 3 zZ ?_;refine Qo 4 zZ ?_;refine Qo 5 zZ ?_;refine Qo 6 zZ ?_;refine Qo 7 zZ ?_;refine Qe (rs:= [8]) (by kernel_rfl) (by simp) ?_;refine Zj.cons rfl (fun K hK=> ?_) Zj.nil;go_simp;have h1:=Qhs (.agg #[.int .i64 md.n,.slice Av md.val.length cv,.slice Ar md.rel.length cr]) md n xval yv w2.drew (HM.out.ext (uM.out.trans (Qz.drew))) zE.out uY.out jF.out XH.out DV.out;unfold Nd.val at h1;obtain⟨ov,cN⟩:∃o,o=Fq md n xval yv:=⟨_,rfl⟩;have OB:=Qq cN;rw [<-cN]at h1;clear cN
     first|rw [HXZ.out,DT.out]at h1|rw [lT,DT.out]at h1|rw [lT,SP]at h1
     refine h1.mono ?_;clear h1;rintro e w3 ⟨rfl,yI⟩;have zC:Qg w2 w3:=Qg.trans (Qz.drew) yI;have zB:=Qq zC;have T4:=Qq (lJ.out.ext zC);clear yI;go_wp2_with fail;refine hK.out _ _ ⟨xd eb e0,xd eb e1,xd eb e2,xd xL c0,xd xL c1,xd xL c2,xd xL c3,xd xL c4,xd xL c5⟩ (fun zZ=> ?_);clear hK K;refine Qb ?_;refine Qe (rs:= [9]) (by kernel_rfl) (by simp) ?_;refine Zj.cons rfl (fun K hK=> ?_) Zj.nil;go_simp;refine hK.out _ _ ⟨xd eb e0,xd eb e1,xd eb e2,xd xL c0,xd xL c1,xd xL c2,xd xL c3,xd xL c4,xd xL c5⟩ (fun zZ=> ?_);clear hK K;refine Qb ?_;refine Qe (rs:= [10]) (by kernel_rfl) (by simp) ?_
     refine Zj.cons rfl (fun K hK=> ?_) Zj.nil;refine Gk rfl (.tmp 59) (.tmp 68) 23 rfl w1.heap.size 41 iU (.int .u64 0) 1 8 Tryz.underlying23 sG xF xE xD rfl (by decide) _ out.length (uV out) (by simp [Act.eval]) (Zg T4.out xv) ⟨w3.heap.size,0,none⟩ 1 1 [.int .u64 (ov:Int)] (by simp [Act.eval]) rfl (by exact Zt _ _ _ rfl) (fun u hu=>by rw [List.mem_singleton.1 hu];rfl) xS xP (Qx (zT.out.trans zB.out).size (by simp)) ?_;intro v7 w7 zW zX zF;have sL:=Qq (show Qg w1 w7 from((zT.out.trans zB.out).alloc _).grown zX (fun k hk=>(T4.out.lt k hk).1))
     have pL:=Qq (show Zf w1.heap.size w7 v7 (Ka md f (k+1)) by
      rw [UG.out,<-OB.out];unfold Zf uV;rw [List.map_append,List.length_append];exact zW)
     obtain⟨A7,c7,qL⟩:=Qt zW;subst qL;have kb:=(Qxt zX wC.out (Qy eb zC.size)).trans (zC.block eb);have kn:=(Qxt zX zD.out (Qy xL zC.size)).trans (zC.block xL);have E0:=(Fi (p:=⟨b,0,none⟩) kb).trans e0;have E1:=(Fi (p:=⟨b,1,none⟩) kb).trans e1;have E2':=(Fi (p:=⟨b,2,none⟩) kb).trans e2;have C0:=(Fi (p:=ad.add (k*6)) kn).trans c0;have C1:=(Fi (p:=⟨(ad.add (k*6)).block,(ad.add (k*6)).off+1,none⟩) kn).trans c1;have C2:=(Fi (p:=⟨(ad.add (k*6)).block,(ad.add (k*6)).off+2,none⟩) kn).trans c2;have C3:=(Fi (p:=⟨(ad.add (k*6)).block,(ad.add (k*6)).off+3,none⟩) kn).trans c3
     have C4:=(Fi (p:=⟨(ad.add (k*6)).block,(ad.add (k*6)).off+4,none⟩) kn).trans c4;have C5:=(Fi (p:=⟨(ad.add (k*6)).block,(ad.add (k*6)).off+5,none⟩) kn).trans c5;clear zW zX zF kb kn;refine hK.out _ _ ⟨E0,E1,E2',C0,C1,C2,C3,C4,C5⟩ (fun zZ=> ?_);clear hK K;refine Qb ?_;refine Yh (by kernel_rfl) rfl (fun K hK=> ?_);go_simp;refine hK.out _ _ ?_;clear hK K;refine Qb ?_;refine Yc (by kernel_rfl) ?_ _;go_wp2_with fail;go_roundw
     case rel=>exact⟨k+1,by go_num,by omega,Qq ⟨sL.out,pL.out⟩⟩
     case measure=>simp [intOf];omega
   obtain rfl:f.length=k:=by omega
   go_wp2_with fail;go_ret2;exact⟨_,rfl,yY.out,Qq (by(try rw [if_pos rfl]);(try rw [<-kL.out]);exact Kp tM.out zO.out.size)⟩
 have rQ:(er==0)=false:=by rw [beq_eq_false_iff_ne];exact hz
 have HZ:=Qq hz;clear hz;go_enter Tryz.func148,Tryz.ntmps148;go_wp2_with fail;refine(Qz4 _ _ md f _ (HM.out.ext zL.out) zE.out (H.out.ext zL.out)).mono ?_;rintro e w1 ⟨rfl,zN⟩;rw [<-wK.out];have zO:=Qq (zL.out.trans zN);clear zN;go_wp2_with fail;go_ret2;exact⟨_,rfl,zO.out,Qq (by(try rw [if_neg HZ.out]);exact Zf.nil _ _)⟩
theorem Qri(vm v:Value)(md:Md)(f:List Nd)(w:World)(hm:Jk w vm md)(zP:md.ok)(h:Yq w v f):
 Calls Tryz.prog 78 #[vm,v] w fun e w'=>e=.returned (.tuple #[.int .u64 ((Dj md f:Nat):Int),.int .i64 (Sl md f)])/\Qg w w':=by
 have H:=Qq h;have HM:=Qq hm;have zE:=Qq zP;obtain⟨vv,vr,rfl,⟨Av,cv,rfl,_⟩,⟨Ar,cr,rfl,_⟩⟩:=hm;obtain⟨A,c,rfl,_⟩:=Qc h;clear zP h;have zL:=Qq (show Qg w (w.alloc (.cells #[.int .i64 md.n,.slice Av md.val.length cv,.slice Ar md.rel.length cr] 26))from Qz.alloc _);have wL:=Qq (show(w.alloc (.cells #[.int .i64 md.n,.slice Av md.val.length cv,.slice Ar md.rel.length cr] 26)).heap[w.heap.size]?=some (.cells #[.int .i64 md.n,.slice Av md.val.length cv,.slice Ar md.rel.length cr] 26 (0,0))from heap_alloc_new _ _);obtain⟨b,hb⟩:∃b,b=w.heap.size:=⟨_,rfl⟩;go_enter Tryz.func78,Tryz.ntmps78;go_upto_region 1 with(fail)
 obtain⟨W0,zK⟩:∃W,W=w.alloc (.cells #[.int .i64 md.n,.slice Av md.val.length cv,.slice Ar md.rel.length cr] 26):=⟨_,rfl⟩;rw [<-zK]at zL wL⊢;rw [<-hb]at wL⊢;clear hb zK;obtain⟨e0,e1,e2,eb⟩:=Zy wL.out;refine Ym 8 (fun w'=>w'.cell? (⟨b,0,none⟩)=some (.int .i64 md.n)/\w'.cell? (⟨b,1,none⟩)=some (.slice Av md.val.length cv)/\w'.cell? (⟨b,2,none⟩)=some (.slice Ar md.rel.length cr)) (by kernel_rfl) ⟨xd eb e0,xd eb e1,xd eb e2⟩ (fun zZ=> ?_);refine Qo 0 zZ ?_;refine Qo 1 zZ ?_;refine Qe (rs:= [2]) (by kernel_rfl) (by simp) ?_;refine Zj.cons rfl (fun K hK=> ?_) Zj.nil
 go_simp;refine(Sp _ f _ (H.out.ext (zL.out.trans xv))).mono ?_;rintro e w1 ⟨u,rfl,uS⟩;have zN:Qg W0 w1:=Qg.trans xv uS.2.2;have VL:=Qq uS.fml;have zO:=Qq (zL.out.trans zN);clear uS;go_wp2_with fail;refine hK.out _ _ ⟨xd eb e0,xd eb e1,xd eb e2⟩ (fun zZ=> ?_);clear hK K;refine Qb ?_;refine Qe (rs:= [3]) (by kernel_rfl) (by simp) ?_;refine Zj.cons rfl (fun K hK=> ?_) Zj.nil;go_simp;refine(Qok _ _ md (Qf f) _ (HM.out.ext zO.out) zE.out VL.out).mono ?_;rintro e w2 ⟨us,rfl,bU,HU⟩;have zS:Qg W0 w2:=zN.trans bU;have zT:=Qq (zO.out.trans bU)
 clear bU;obtain⟨er,uK⟩:∃er,er=Jz md (Qf f):=⟨_,rfl⟩;have wK:=Qq uK;rw [<-uK]at HU⊢;clear uK;go_wp2_with fail;refine hK.out _ _ ⟨xd eb e0,xd eb e1,xd eb e2⟩ (fun zZ=> ?_);clear hK K;refine Qb ?_;refine Qo 4 zZ ?_;refine Qo 5 zZ ?_;refine Qo 6 zZ ?_;refine Qo 7 zZ ?_;refine Yh (by kernel_rfl) rfl (fun K hK=> ?_);go_simp;refine hK.out _ _ ?_;clear hK K;refine Qb ?_;refine Yc (by kernel_rfl) ?_ _;by_cases hz:er=0
 ·subst hz;have EM:=Qq (show Zf w1.heap.size w2 us (Ka md (Qf f) (Qf f).length) by have:=HU.out;rw [if_pos rfl]at this;exact this);have pP:0 < (Qf f).length:=(Jf (Vm wK.out.symm).2.1).1;have iN:(Qf f).length<=1000:=Qx (Jf (Vm wK.out.symm).2.1).2.1 (by decide);have OZ:=Qq (show Sl md f=0 by unfold Sl;rw [if_pos wK.out.symm]);have eP:=Qq (show Dj md f=(Ka md (Qf f) (Qf f).length).getD ((Qf f).length - 1) 0 by unfold Dj;rw [if_pos wK.out.symm]);have nH:=Sj md (Qf f) (Qf f).length
  obtain⟨sl,YN⟩:∃l,l=Ka md (Qf f) (Qf f).length:=⟨_,rfl⟩;rw [<-YN]at EM eP nH;rw [<-nH]at pP iN eP;obtain⟨n,hn⟩:∃n,sl.length=n+1:=⟨sl.length - 1,by omega⟩;obtain⟨Au,cu,rfl⟩:=Qt EM.out;obtain⟨g,cp,QJ,gl,_,_,_,lW,_⟩:=EM.out.slice (by omega);injection QJ with hge1 _ hge2;subst hge1 hge2;have yU:=lW n (by omega);rw [hn]at eP pP⊢;clear YN lW;go_wp2_with fail;go_ret2;exact⟨by rw [OZ.out,eP.out];rfl,zT.out⟩
 have rQ:(er==0)=false:=by rw [beq_eq_false_iff_ne];exact hz
 have OZ:=Qq (show Sl md f=Jz md f by unfold Sl;rw [if_neg (by rw [<-wK.out];exact hz)]);have eP:=Qq (show Dj md f=0 by unfold Dj;rw [if_neg (by rw [<-wK.out];exact hz)]);have hzn:(er !=0)=true:=by simp [bne,rQ]
 go_wp2_with fail;refine(Qz4 _ _ md f _ (HM.out.ext zT.out) zE.out (H.out.ext zT.out)).mono ?_;rintro e w3 ⟨rfl,zC⟩;go_wp2_with fail;go_ret2;exact⟨by rw [OZ.out,eP.out];rfl,zT.out.trans zC⟩
theorem Qyl {a b n:Nat}(h:a < 2^n):Zl a b < 2^n:=Qkf fun i hi=>by
 rw [Gl,Bool.and_eq_true]at hi;exact Kf h hi.1
theorem Eg(n:Nat):Zk n < 2^n:=by
 unfold Zk;have:=Nat.two_pow_pos n;omega
theorem Qa7 {op:Int} {x y n:Nat}(hx:x < 2^n)(hy:y < 2^n):Gg op x y (Zk n) < 2^n:=by
 have h:=Nat.two_pow_pos n;unfold Gg
 repeat' split
 ·exact Eg n
 ·exact Qyl (Eg n)
 ·exact Nat.lt_of_le_of_lt Nat.and_le_left hx
 ·exact Nat.or_lt_two_pow hx hy
 ·exact Nat.or_lt_two_pow (Qyl (Eg n)) hy
 ·exact Qyl (Eg n)
 exact h
theorem Qtz {md:Md}(zU:Qa md=0) {n:Nd} {x y:Nat}(hx:x < 2^md.n.toNat)(hy:y < 2^md.n.toNat):Fq md n x y < 2^md.n.toNat:=by
 unfold Fq
 split
 ·have hb:=(Zv zU).2.2.2.2.2.1;unfold Zn at hb;rw [List.any_eq_false]at hb;rw [Qk];cases e:md.val[n.i.toNat]? with
  |none=>exact Nat.two_pow_pos _
  |some s =>
   have:=hb s (List.mem_of_getElem? e)
   simpa using this
 split
 ·exact Qa7 hx hy
 split
 ·exact Nb _ _
 split
 ·exact Qyl (Eg _)
 split
 ·exact Nb _ _
 split
 ·exact Nb _ _
 exact Nb _ _
theorem Tn {l:List Nat} {b:Nat}(h:∀s∈l,s < b)(hb:0 < b)(i:Nat):l.getD i 0 < b:=by
 rw [Qk];cases e:l[i]? with
 |none=>exact hb
 |some s=>exact h s (List.mem_of_getElem? e)
theorem Qf8 {md:Md}(zU:Qa md=0)(f:List Nd):∀k,∀s∈Ka md f k,s < 2^md.n.toNat
 |0,s,hs=>by cases hs
 |k+1,s,hs=>by
  have ih:=Qf8 zU f k;have h0:=Nat.two_pow_pos md.n.toNat;rcases List.mem_append.1 hs with h|h
  ·exact ih s h
  rw [List.mem_singleton.1 h];unfold Ew
  split
  ·refine Qtz zU ?_ ?_
   ·split
    ·exact Tn ih h0 _
    exact h0
   split
   ·exact Tn ih h0 _
   exact h0
  exact h0
theorem Qvq {md:Md} {f:List Nd}(h:Jz md (Qf f)=0):check f=0:=by
 refine Classical.byContradiction fun hn=> ?_
 have wN:=(Vm h).2.1;have:Qf f= []:=by
  unfold Qf Js;rw [show(check f !=0)=true by simpa using hn];rfl
 rw [this]at wN;exact Qpc wN
def Qv2(r:List Nat)(s:Nat):Nat:=if Jo r.length r=0 then Zl (Zk r.length) (Vt r r.length (Zk 64^^^s))else 0
theorem Qlb {s:Nat}(hs:Qm s):Qm (Zk 64^^^s):=Qk0 (Yk (Nat.le_refl _)) hs
theorem Qt5 {s:Nat}(hs:Qm s):bits .xor .u64 IntKind.u64.max (s:Int)=((Zk 64^^^s:Nat):Int):=Qvo (a:=Zk 64) (Yk (Nat.le_refl _)) hs
theorem Qw1(v:Value)(r:List Nat)(s:Nat)(w:World)(h:Jn w v r)(hw:∀s∈r,Qm s)(hs:Qm s):
 Calls Tryz.prog 187 #[v,.int .u64 (s:Int)] w fun e w'=>e=.returned (.int .u64 ((Qv2 r s:Nat):Int))/\Qg w w':=by
 have H:=Qq h;obtain⟨A,c,rfl,_,_,HL⟩:=Vf h;have rV:=Qq hw;have HS:=Qq (Qlb hs);have jH:=Qq (Qt5 hs);clear h hw hs;by_cases zU:Jo r.length r=0
 ·have hn:=Nx zU;have HC:=Qq zU;have HB:=Qq (show Nl r (Zk 64^^^s)=Vt r r.length (Zk 64^^^s) by unfold Nl;rw [if_pos HC.out]);have HD:=Qq (show Qv2 r s=Zl (Zk r.length) (Nl r (Zk 64^^^s)) by rw [HB.out];unfold Qv2;rw [if_pos HC.out]);have J8:=Qq (Yg (a:=Zk r.length) (b:=Nl r (Zk 64^^^s)) (Yk hn) (by rw [HB.out];exact Fk hn _));clear zU;go_enter Tryz.func187,Tryz.ntmps187;go_wp2_with(first|(go_at_call 113;refine(Gb _ r _ H.out rV.out).mono ?_;rintro e w1 ⟨rfl,zN⟩;rw [HC.out];have zO:=Qq zN;clear zN)|(go_at_call 115;refine(Qq6 r.length hn _).mono ?_;rintro e w3 ⟨rfl,rfl⟩)|(rw [jH.out];go_at_call 186;refine(Mo _ r _ _ (H.out.ext zO.out) rV.out HS.out).mono ?_;rintro e w4 ⟨rfl,yA⟩;have yP:=Qq yA;clear yA))
  go_ret;exact⟨by rw [HD.out,<-J8.out] <;> rfl,zO.out.trans yP.out⟩
 have HC:=Qq zU;have HB:=Qq (show Qv2 r s=0 by unfold Qv2;rw [if_neg HC.out]);obtain⟨ce,bC⟩:∃z,z=Jo r.length r:=⟨_,rfl⟩;rw [<-bC]at zU;have zQ:(ce !=0)=true:=by simpa using zU
 have GR:=Qq bC;clear zU bC;go_enter Tryz.func187,Tryz.ntmps187;go_wp2_with(go_at_call 113;refine(Gb _ r _ H.out rV.out).mono ?_;rintro e w1 ⟨rfl,zN⟩;rw [<-GR.out];have zO:=Qq zN;clear zN);go_ret;exact⟨by rw [HB.out] <;> rfl,zO.out⟩
theorem Qsj(v:Value)(r:List Nat)(n c s:Nat)(w:World)(h:Jn w v r)(hw:∀s∈r,Qm s)(hl:r.length=n)(zU:Jo r.length r=0)(hc:Qm c)(hs:Qm s):
 Calls Tryz.prog 190 #[v,.int .u64 ((Zk n:Nat):Int),.int .u64 (c:Int),.int .u64 (s:Int)] w fun e w'=>e=.returned (.int .u64 ((Xn r n c s:Nat):Int))/\Qg w w':=by
 have H:=Qq h;have rV:=Qq hw;have hn:n<=64:=by rw [<-hl];exact Nx zU
 have qI:=Qq (Qkm (r:=r) (n:=n) hl (by
  have:=(Fg (l:=r)).1 (by unfold Xv;rw [zU];rfl);rw [hl]at this;exact this.2))
 have aS:=Qq (Yk hn);have HC:=Qq hc;have HS:=Qq hs;have wC:=Qq (show ∀m,Nl r m=Vt r n m from fun m=>by unfold Nl;rw [if_pos zU,hl]);have Y2:=Qq (Yg (Yk hn) hc);clear h hw zU hc hs hl;go_enter Tryz.func190,Tryz.ntmps190;go_wp2_with fail;go_loopw [9] (fun v wr=>∃out:Nat,v=.int .u64 (out:Int)/\Hid (Qm out)/\Hid (Qg w wr)/\Hid ((∀i,(Xn r n c s).testBit i=true->out.testBit i=true)/\∀i,(gfF r n c s out).testBit i=true->out.testBit i=true)) (fun v _=>(intOf v).toNat)
 case atStart=>exact⟨Zk n,rfl,aS,Qq Qz,Qq ⟨Qde qI.out,Qei qI.out⟩⟩
 case round =>
  obtain⟨out,rfl,HO,HX,HI⟩:=hrel;have Y0:=Qq (Xk HS.out HO.out);have V9:=Qq (Xq (a:=Zl (Zk n) c) (b:=s&&&out) (Uy aS.out) (Rk HS.out));have JI:=Qq (show Qm (Zl (Zk n) c|||(s&&&out))from Ir (Uy aS.out) (Rk HS.out));obtain⟨nx,qT⟩:∃x,x=gfF r n c s out:=⟨_,rfl⟩;have zD:=Qq qT;have V6:=Qq (show Nl r (Zl (Zk n) c|||(s&&&out))=nx by rw [wC.out,qT];rfl);have G5:=Qq (show Qm nx by rw [qT];exact Fk hn _);clear qT;by_cases hd:nx=out
  ·have ZA:((nx:Int)==(out:Int))=true:=by simp [hd]
   have HE:=Qq (Qlk qI.out (by rw [<-zD.out];exact hd) HI.out.1);clear hd;go_wp2_with(rw [Y2.out,Y0.out,V9.out];go_at_call 186;refine(Mo _ r _ _ (H.out.ext HX.out) rV.out JI.out).mono ?_;rintro e w4 ⟨rfl,yA⟩;rw [V6.out];have yP:=Qq yA;clear yA);go_ret;exact⟨by rw [HE.out] <;> rfl,HX.out.trans yP.out⟩
  have ZA:((nx:Int)==(out:Int))=false:=by simp only [beq_eq_false_iff_ne,ne_eq,Int.natCast_inj];exact hd
  have hZ:=Qq (Zyw (by rw [zD.out];exact HI.out.2) hd);clear hd;go_wp2_with(rw [Y2.out,Y0.out,V9.out];go_at_call 186;refine(Mo _ r _ _ (H.out.ext HX.out) rV.out JI.out).mono ?_;rintro e w4 ⟨rfl,yA⟩;rw [V6.out];have yP:=Qq yA;clear yA);go_roundw
  case rel=>exact⟨nx,rfl,G5,Qq (HX.out.trans yP.out),Qq (by rw [zD.out];exact⟨Qda qI.out HI.out.1,Zyq qI.out HI.out.2⟩)⟩
  case measure=>have:=hZ.out;simp [intOf];omega
theorem Qmd(v:Value)(l:List Nat)(w:World)(h:Jn w v l)(h0:0 < l.length)(uH:l.length<=64):
 Calls Tryz.prog 221 #[v] w fun e w'=>∃u,e=.returned u/\Zf w.heap.size w' u l/\Qg w w':=by
 obtain⟨A,c,rfl,_,_,HL⟩:=Vf h;obtain⟨iU,sG,xF,xE,xD⟩:=info_parts Dx;clear h;obtain⟨ad,rfl,zV,_⟩:=HL.out 0 h0;have sV:=Qq (show ∀(j:Nat) u,(uV l)[j]?=some u->(w.alloc (.cells #[] 41)).cell? (ad.add j)=some u from De fun i hi=>by
  obtain⟨ad2,e,_,hc⟩:=HL.out i hi;injection e with e;subst e;exact(((Qg.refl w).alloc _).cell (p:=ad.add i) (Qj zV)).trans hc)
 have uB:=Qq (Sz w 41);have q:∀(w:World) (a:Option Addr) (n c n' c':Nat),(binOp .eql 23 (.slice a n c) (.slice none n' c')).run Tryz.prog w=.ok (.bool a.isNone) w:=fun w a n c n' c'=>Lib.run_eql_slice_nil w _ _ a n c n' c' Tryz.underlying23
 obtain⟨n,hn⟩:∃n,n=l.length:=⟨_,rfl⟩;have HN:=Qq hn;rw [<-hn]at uH h0⊢;have uS:0+n<=maxLen:=by unfold maxLen;omega
 have xO:(0+n)*8<=140737488355328:=by omega
 clear hn;go_enter Tryz.func221,Tryz.ntmps221;go_wp2_with(at_builtin;refine wpList_append_own_at _ rfl _ _ 23 rfl w.heap.size 41 iU (.int .u64 0) 1 8 Tryz.underlying23 sG xF xE xD rfl (by decide) _ 0 [] rfl uB.out ad n c (uV l) rfl (by rw [Wz,Nat.mul_one];exact HN.out.symm) sV.out (Wj l) uS xO (by simp) ?_);intro v3 w3 xW yG _ _;have zB:=Qq (show Qg w w3 from((Qg.refl w).alloc _).grown yG (fun k hk=>by have h2:w.heap.size=k:=Option.some.inj hk;omega));have HM:=Qq (show Zf w.heap.size w3 v3 l by
  unfold Zf;rw [<-HN.out];exact xW)
 clear xW yG;obtain⟨g,cap,rfl,xK,tV,_,xY,_,_⟩:=HM.out.slice (by rw [<-HN.out];exact h0);rw [<-HN.out]at HM⊢;clear xK;go_wp2_with fail;go_ret;exact⟨_,rfl,HM.out,zB.out⟩
def Qd7(n:Nat)(meet:Bool):Nat:=if meet then Zk n else 0
def Qky(rl:List (List Nat))(gn:Nat)(meet:Bool)(n k:Nat):List Nat:=(List.range n).map fun i=>(List.range k).foldl (Ft rl gn meet i) (Qd7 n meet)
def Lp(gn k:Nat):Bool:=(List.range k).any fun a=>gn.testBit a
def Td(rl:List (List Nat))(gn:Nat)(meet:Bool)(n k:Nat):List Nat:=bif Lp gn k then Qky rl gn meet n k else []
theorem Rx(gn k:Nat):Lp gn (k+1)=(Lp gn k||gn.testBit k):=by
 unfold Lp;rw [List.range_succ,List.any_append];simp
theorem Zqd {rl:List (List Nat)} {gn n k:Nat} {meet:Bool}(h:gn.testBit k=false):Td rl gn meet n (k+1)=Td rl gn meet n k:=by
 unfold Td;rw [Rx,h,Bool.or_false]
 congr 1
 unfold Qky;refine List.map_congr_left fun i _=> ?_
 rw [Kq];unfold Ft;rw [h];rfl
theorem Qcd {rl:List (List Nat)} {gn n k:Nat} {meet:Bool}(h:Lp gn k=false) {i:Nat} :(List.range k).foldl (Ft rl gn meet i) (Qd7 n meet)=Qd7 n meet:=by
 induction k with
 |zero=>rfl
 |succ k ih =>
  rw [Rx,Bool.or_eq_false_iff]at h;rw [Kq,ih h.1];unfold Ft;rw [h.2];rfl
theorem Qli {rl:List (List Nat)} {gn n k:Nat} {meet:Bool}(h:gn.testBit k=true)(hn:Lp gn k=false)(hl:(rl.getD k []).length=n)(wQ:∀s∈rl.getD k [],s < 2^n):Td rl gn meet n (k+1)=rl.getD k []:=by
 unfold Td;rw [Rx,h,Bool.or_true];show Qky rl gn meet n (k+1)=_;refine List.ext_getElem (by rw [hl];unfold Qky;rw [List.length_map,List.length_range]) fun i h1 h2=> ?_
 simp only [Qky,List.getElem_map,List.getElem_range];rw [Kq,Qcd hn];unfold Ft Qd7;rw [h];have e:(rl.getD k []).getD i 0=(rl.getD k [])[i]:=by rw [Qk,Qv h2];rfl
 rw [e];have hs:=wQ _ (List.getElem_mem h2);cases meet
 ·simp
 simp only [↓reduceIte];refine Nat.eq_of_testBit_eq fun j=> ?_
 rw [Nat.testBit_and,Vz];cases hj:((rl.getD k [])[i]).testBit j
 ·simp
 rw [decide_eq_true (Kf hs hj)];rfl
theorem Qew {rl:List (List Nat)} {gn n:Nat} {meet:Bool}(h1:1<=gn)(hg:gn < 2^rl.length):Td rl gn meet n rl.length=(List.range n).map (Yz rl gn meet n):=by
 have ha:Lp gn rl.length=true:=by
  obtain⟨i,hi⟩:=Nat.exists_testBit_of_ne_zero (show gn≠0 by omega);exact List.any_eq_true.2 ⟨i,List.mem_range.2 (Kf hg hi),hi⟩
 unfold Td;rw [ha];rfl
theorem Qkq {rl:List (List Nat)} {gn n k:Nat} {meet:Bool}(h:Lp gn k=true):(Td rl gn meet n k).length=n:=by
 unfold Td;rw [h];unfold Qky;simp
def Ro(J:Nat->Nat->Nat)(o r:List Nat)(k:Nat):List Nat:=(List.range o.length).map fun i=>if i < k then J (o.getD i 0) (r.getD i 0)else o.getD i 0
theorem Qc9(J:Nat->Nat->Nat)(o r:List Nat):Ro J o r 0=o:=by
 refine List.ext_getElem (by simp [Ro]) fun i h1 h2=> ?_
 simp only [Ro,List.getElem_map,List.getElem_range];rw [if_neg (Nat.not_lt_zero _),Qk,Qv h2];rfl
theorem Me(J:Nat->Nat->Nat)(o r:List Nat)(k:Nat):(Ro J o r k).length=o.length:=by simp [Ro]
theorem Qwn {J:Nat->Nat->Nat} {o r:List Nat} {k i:Nat}(hi:i < o.length):(Ro J o r k).getD i 0=if i < k then J (o.getD i 0) (r.getD i 0)else o.getD i 0:=by
 unfold Ro;rw [Qk,List.getElem?_map,List.getElem?_range hi];rfl
theorem Qc8 {J:Nat->Nat->Nat} {o r:List Nat} {k:Nat}(_hk:k < o.length):(Ro J o r k).set k (J (o.getD k 0) (r.getD k 0))=Ro J o r (k+1):=by
 refine List.ext_getElem (by simp [Ro]) fun i h1 h2=> ?_
 have hi:i < o.length:=by rw [Me]at h2;exact h2
 rw [List.getElem_set]
 split
 ·rename_i e;subst e;simp only [Ro,List.getElem_map,List.getElem_range];rw [if_pos (Nat.lt_succ_self _)]
 rename_i e;simp only [Ro,List.getElem_map,List.getElem_range];by_cases h3:i < k
 ·rw [if_pos h3,if_pos (by omega)]
 rw [if_neg h3,if_neg (by omega)]
theorem Qcg {rl:List (List Nat)} {gn n k:Nat} {meet:Bool}(h:gn.testBit k=true)(hn:Lp gn k=true):Ro (fun x y=>if meet then x&&&y else x|||y) (Td rl gn meet n k) (rl.getD k []) n=Td rl gn meet n (k+1):=by
 have hl:=Qkq (rl:=rl) (n:=n) (meet:=meet) hn;refine List.ext_getElem (by rw [Me,hl,Qkq (by rw [Rx,hn];rfl)]) fun i h1 h2=> ?_
 have hi:i < n:=by rw [Me,hl]at h1;exact h1
 simp only [Ro,List.getElem_map,List.getElem_range,Td,Rx,hn,Bool.true_or,cond_true,Qky];rw [if_pos hi,Kq,Qk,List.getElem?_map,List.getElem?_range hi];simp only [Option.map_some,Option.getD_some];unfold Ft;rw [h];cases meet <;> rfl
theorem Qyf {w:World} {b:Nat} {a0 a1 a2:Value} {t:TypeId}(h:w.heap[b]?=some (.cells #[a0,a1,a2] t (0,0))):w.cell? ⟨b,0,none⟩=some a0/\w.cell? ⟨b,1,none⟩=some a1/\w.cell? ⟨b,2,none⟩=some a2/\b < w.heap.size :=
 ⟨by simp [World.cell?,h],by simp [World.cell?,h],by simp [World.cell?,h],Qn h⟩
theorem Qvb(meet:Bool)(g:Nat)(eg:∀args w,(callFunc g args).run Tryz.prog w=.ok (.enter g args) w)(v:Value)(md:Md)(gn:Nat)(w:World)(h:Jk w v md)(zP:md.ok)(zU:Qa md=0)(vD:1<=gn)(hg:gn < 2^md.rel.length)
 (hJ:∀(W:World) (x y:Nat),Qm x->Qm y->Calls Tryz.prog g #[.int .u64 (x:Int),.int .u64 (y:Int)] W fun e w'=>e=.returned (.int .u64 ((if meet then x&&&y else x|||y:Nat):Int))/\W=w'):
 Calls Tryz.prog 209 #[v,.int .i64 (gn:Int),.func (.func g) #[] #[]] w fun e w'=>∃u,e=.returned u/\Qg w w'/\Zf w.heap.size w' u ((List.range md.n.toNat).map (Yz md.rel gn meet md.n.toNat)):=by
 have H:=Qq h;have zE:=Qq zP;have yD:=Qq zU;have HJ:=Qq hJ;obtain⟨wU,yZ,uR,_,wO,_,wQ⟩:=Zv zU;obtain⟨vv,vr,rfl,hv,hr⟩:=h;obtain⟨Av,cv,rfl,_⟩:=hv;obtain⟨Ar,cr,rfl,cG,RR,HR⟩:=Gj hr;obtain⟨n,uD⟩:=Int.eq_ofNat_of_zero_le (show 0<=md.n by omega);rw [uD]at wU yZ H wO wQ⊢;have lD:((n:Nat):Int).toNat=n:=Int.toNat_natCast n;rw [lD]at wQ⊢;have cS:n<=64:=by omega
 have oW:0 < n:=by omega
 have uF:=decide_eq_false (Qj4 uR hg);have MF:¬(gn:Int) < 1:=by omega
 have vV:min md.rel.length 64=md.rel.length:=by omega
 obtain⟨rl,wP⟩:∃l,l=md.rel:=⟨_,rfl⟩;have eB:=Qq (show ∀r∈rl,∀s∈r,Qm s by rw [wP];exact zP.rel);have ZY:=Qq (show ∀r∈rl,r.length=n by rw [wP];exact fun r hr=>by have:=wO r hr;omega);have yB:=Qq (show ∀r∈rl,Zn r n=false by rw [wP];exact wQ);rw [<-wP]at HR cG uR uF vV hg⊢;have aZ:gn < 9223372036854775808:=by have:(2:Nat)^rl.length<=2^4:=Nat.pow_le_pow_right (by omega) uR;omega
 have JN:=Qq (Qew (rl:=rl) (n:=n) (meet:=meet) vD hg);have zL:=Qq (show Qg w (w.alloc (.cells #[.int .i64 (n:Int),.slice Av md.val.length cv,.slice Ar rl.length cr] 26))from Qz.alloc _);have wL:=Qq (show(w.alloc (.cells #[.int .i64 (n:Int),.slice Av md.val.length cv,.slice Ar rl.length cr] 26)).heap[w.heap.size]?=some (.cells #[.int .i64 (n:Int),.slice Av md.val.length cv,.slice Ar rl.length cr] 26 (0,0))from heap_alloc_new _ _);have H2:=Qq (show Jk w (.agg #[.int .i64 (n:Int),.slice Av md.val.length cv,.slice Ar rl.length cr]) md by rw [wP];exact H.out);clear hr zP zU uD wP hg wO lD H vD hJ wQ
 go_enter Tryz.func209,Tryz.ntmps209;go_wp2_with(go_at_call 93;refine(Xa _ md _ (H2.out.ext zL.out) zE.out).mono ?_;rintro e w1 ⟨rfl,zN⟩;rw [yD.out];have zO:=Qq (zL.out.trans zN);have wT:=Qq ((zN.block (Qn wL.out)).trans wL.out);obtain⟨e0,e1,e2,eb⟩:=Qyf wT.out;clear zN);clear e0 e1 e2 eb;go_loopw [7,29] (fun vo vi wr=>∃k:Nat,vi=.int .i64 (k:Int)/\k<=rl.length/\Hid (Qg w1 wr/\Zf w1.heap.size wr vo (Td rl gn meet n k)/\(Lp gn k=false->vo=.slice none 0 0))) (fun _ v _=>rl.length - (intOf v).toNat)
 case atStart=>exact⟨0,rfl,Nat.zero_le _,Qq ⟨Qz,Zf.nil _ _,fun _=>rfl⟩⟩
 case round =>
  obtain⟨k,rfl,hk,zY⟩:=hrel;have HX:=Qq zY.out.1;have HM:=Qq zY.out.2.1;have hG:=Qq zY.out.2.2;obtain⟨e0,e1,e2,eb⟩:=Qyf ((HX.out.block (Qn wT.out)).trans wT.out);clear zY;by_cases hlt2:k < rl.length
  ·have yV:(k:Int) < (rl.length:Int):=by omega
   have cV:min k 64=k:=by omega
   obtain⟨ad,u,rfl,zV,yU,hu⟩:=HR.out k hlt2;have wG:rl.getD k []∈rl:=by rw [Qk,Qv hlt2];exact List.getElem_mem hlt2
   have yQ:(rl.getD k []).length=n:=ZY.out _ wG;have tG:=Qq (zO.out.trans HX.out);have a0:=(tG.out.cell (p:=ad.add k) (Qj zV)).trans yU;have al:(ad.add k).block < wr.heap.size:=by rw [Qr];exact Qy zV tG.out.size
   have HU:=Qq (hu.ext tG.out);have tM:=Qq (eB.out _ wG);have EX:=Qq (show ∀s∈rl.getD k [],s < 2^n from fun s hs=>by
    have:=List.any_eq_false.1 (yB.out _ wG) s hs
    simpa using this)
   have tC:=Ip gn k aZ;have q:∀(w:World) (a:Option Addr) (n c n' c':Nat),(binOp .eql 23 (.slice a n c) (.slice none n' c')).run Tryz.prog w=.ok (.bool a.isNone) w:=fun w a n c n' c'=>Lib.run_eql_slice_nil w _ _ a n c n' c' Tryz.underlying23
   obtain⟨Au,cu,rfl,_,_,bG⟩:=Vf hu;rw [yQ]at bG;clear yU;cases yK:gn.testBit k
   ·rw [yK]at tC;have zD:=Qq (Zqd (rl:=rl) (n:=n) (meet:=meet) yK);have JT:=Qq (show Lp gn (k+1)=Lp gn k by rw [Rx,yK,Bool.or_false]);clear yK;go_wp2_with fail;go_roundw
    case rel=>exact⟨k+1,by go_num,by omega,Qq ⟨HX.out,by rw [zD.out];exact HM.out,by rw [JT.out];exact hG.out⟩⟩
    case measure=>simp [intOf];omega
   rw [yK]at tC;have JT:=Qq (show Lp gn (k+1)=true by rw [Rx,yK,Bool.or_true]);cases qE:Lp gn k
   ·have zD:=Qq (Qli (rl:=rl) (n:=n) (meet:=meet) yK qE yQ EX.out);obtain rfl:=hG.out qE;clear yK qE;rw [yQ]at HU a0;go_wp2_with(go_at_call 221;refine(Qmd _ (rl.getD k []) _ HU.out (by rw [yQ];exact oW) (by rw [yQ];exact cS)).mono ?_;rintro e w5 ⟨u5,rfl,LF,xG⟩;have XQ:=Qq (Kp LF HX.out.size);have yJ:=Qq (HX.out.trans xG);clear LF xG);go_roundw
    case rel=>exact⟨k+1,by go_num,by omega,Qq ⟨yJ.out,by rw [zD.out];exact XQ.out,fun h=>by rw [JT.out]at h;cases h⟩⟩
    case measure=>simp [intOf];omega
   have zD:=Qq (Qcg (rl:=rl) (n:=n) (meet:=meet) yK qE);have sZ:=Qkq (rl:=rl) (n:=n) (meet:=meet) qE;obtain⟨o,ho⟩:∃o,o=Td rl gn meet n k:=⟨_,rfl⟩;rw [<-ho]at HM zD sZ;have kK:=Qq (show ∀s∈o,Qm s by
    rw [ho];unfold Td;rw [qE];intro s hs;obtain⟨i,_,rfl⟩:=List.mem_map.1 hs;exact Bz (fun s a h=>Wh eB.out h) _ _ (by unfold Qd7;cases meet;exact(show(0:Nat) < _ by omega);exact Yk cS))
   obtain⟨g0,cap,rfl,_,tV,_,_,_,_⟩:=HM.out.slice (by rw [sZ];exact oW);rw [sZ]at HM⊢;clear yK qE ho;obtain⟨r0,cI⟩:∃r,r=rl.getD k []:=⟨_,rfl⟩;have hr0l:r0.length=n:=by rw [cI];exact yQ
   have aB:=Qq cI;rw [<-cI]at tM zD bG yQ a0;rw [yQ]at a0;clear cI;obtain⟨wq,vC⟩:∃v,v=wr:=⟨_,rfl⟩;subst vC;go_wp2_with fail;clear e0 e1 e2 eb a0 al;have HXQ:=Qq (zO.out.trans HX.out);go_loopw [45] (fun vi wr=>∃i:Nat,vi=.int .i64 (i:Int)/\i<=n/\Hid (Qg w1 wr/\Qg w wr/\Zf w1.heap.size wr (.slice (some ⟨g0,0,none⟩) n cap) (Ro (fun x y=>if meet then x&&&y else x|||y) o r0 i))) (fun v _=>n - (intOf v).toNat)
   case atStart=>exact⟨0,rfl,Nat.zero_le _,Qq ⟨HX.out,HXQ.out,by rw [Qc9];exact HM.out⟩⟩
   case round =>
    obtain⟨i,rfl,hi,zY⟩:=hrel;have EB:=Qq zY.out.1;have yY:=Qq zY.out.2.1;have uC:=Qq zY.out.2.2;clear zY;by_cases yW:i < n
    ·have gN:(i:Int) < (n:Int):=by omega
     obtain⟨-,cl,-,-,-,wN,nO⟩:=uC.out.at_ (by rw [Me,sZ];exact oW);have c0:=wN i (by rw [Me,sZ];exact yW);have f0:=nO i;rw [Qwn (by rw [sZ];exact yW),if_neg (Nat.lt_irrefl _)]at c0;obtain⟨ud,rfl,wF,sO⟩:=bG.out i yW;have d0:=(yY.out.cell (p:=ud.add i) (Qj wF)).trans sO;have dl:(ud.add i).block < wr.heap.size:=by rw [Qr];exact Qy wF yY.out.size
     have NG:=Qq (Yx kK.out i);have NF:=Qq (Yx tM.out i);have zA:=Qq (Qc8 (J:=fun x y=>if meet then x&&&y else x|||y) (o:=o) (r:=r0) (k:=i) (by rw [sZ];exact yW));obtain⟨x,hx⟩:∃x,x=o.getD i 0:=⟨_,rfl⟩;obtain⟨y,hy⟩:∃y,y=r0.getD i 0:=⟨_,rfl⟩;rw [<-hx]at c0 NG zA;rw [<-hy]at d0 NF zA;obtain⟨z,hz⟩:∃z,z=(if meet then x&&&y else x|||y):=⟨_,rfl⟩;have I0:=Qq (show ∀W:World,Calls Tryz.prog g #[.int .u64 (x:Int),.int .u64 (y:Int)] W fun e w'=>e=.returned (.int .u64 (z:Int))/\W=w' from fun W=>by rw [hz];exact HJ.out W x y NG.out NF.out);have ZS:=Qq (show(Ro (fun x y=>if meet then x&&&y else x|||y) o r0 i).set i z=Ro (fun x y=>if meet then x&&&y else x|||y) o r0 (i+1) by rw [hz];exact zA.out)
     clear wN nO sO hx hy hz zA;go_upto_region 13 with(fail);refine Ym 13 (fun w'=>w'.cell? (⟨g0,i,none⟩)=some (.int .u64 (x:Int))/\w'.cell? (ud.add i)=some (.int .u64 (y:Int))) (by kernel_rfl) ⟨xd cl c0,xd dl d0⟩ (fun zZ=> ?_);refine Qo 0 zZ ?_;refine Qo 1 zZ ?_;refine Qo 2 zZ ?_;refine Qo 3 zZ ?_;refine Qo 4 zZ ?_;refine Qo 5 zZ ?_;refine Qo 6 zZ ?_;refine Qo 7 zZ ?_;refine Qo 8 zZ ?_;refine Qo 9 zZ ?_;refine Qo 10 zZ ?_;refine Qe (rs:= [11]) (by kernel_rfl) (by simp) ?_;refine Zj.cons rfl (fun K hK=> ?_) Zj.nil;go_simp;refine(I0.out _).mono ?_
     rintro e w9 ⟨rfl,rfl⟩;go_wp2_with fail;refine hK.out _ _ ⟨xd cl c0,xd dl d0⟩ (fun zZ=> ?_);clear hK K;refine Qb ?_;refine Qo 12 zZ ?_;refine Yh (by kernel_rfl) rfl (fun K hK=> ?_);go_simp;refine hK.out _ _ ?_;clear hK K;refine Qb ?_;refine Yc (by kernel_rfl) ?_ _;have jB:=Qq (uC.out.set (by rw [Me,sZ]) i z);rw [ZS.out]at jB;have nU:=Qq (EB.out.setCell (p:=⟨g0,i,none⟩) tV (.int .u64 ((z:Nat):Int)));have C7:=Qq (yY.out.setCell (p:=⟨g0,i,none⟩) (Qx zO.out.size tV) (.int .u64 ((z:Nat):Int)));clear c0 f0 d0 cl dl EB yY uC;go_wp2_with fail;go_roundw
     case rel=>exact⟨i+1,by go_num,by omega,Qq ⟨nU.out.drew,C7.out.drew,jB.out.ext (Qz.drew)⟩⟩
     case measure=>simp [intOf];omega
    obtain rfl:n=i:=by omega
    go_wp2_with fail;go_roundw
    case rel=>exact⟨k+1,by go_num,by omega,Qq ⟨EB.out,by rw [<-zD.out];exact uC.out,fun h=>by rw [JT.out]at h;cases h⟩⟩
    case measure=>simp [intOf];omega
  obtain rfl:rl.length=k:=by omega
  go_wp2_with fail;go_ret;exact⟨_,rfl,zO.out.trans HX.out,by rw [<-JN.out];exact Kp HM.out zO.out.size⟩
theorem Zzv(W:World)(x y:Nat)(hx:Qm x)(hy:Qm y):Calls Tryz.prog 211 #[.int .u64 (x:Int),.int .u64 (y:Int)] W fun e w'=>e=.returned (.int .u64 ((if false then x&&&y else x|||y:Nat):Int))/\W=w':=by
 have HB:=Qq (Xq hx hy);clear hx hy;go_enter Tryz.func211,Tryz.ntmps211;go_wp2_with fail;go_ret;exact⟨by rw [<-HB.out] <;> rfl,rfl⟩
theorem Qw0(W:World)(x y:Nat)(hx:Qm x)(hy:Qm y):Calls Tryz.prog 210 #[.int .u64 (x:Int),.int .u64 (y:Int)] W fun e w'=>e=.returned (.int .u64 ((if true then x&&&y else x|||y:Nat):Int))/\W=w':=by
 have HB:=Qq (Xk hx hy);clear hx hy;go_enter Tryz.func210,Tryz.ntmps210;go_wp2_with fail;go_ret;exact⟨by rw [<-HB.out] <;> rfl,rfl⟩
theorem Qx0(v:Value)(md:Md)(gn:Nat)(w:World)(h:Jk w v md)(zP:md.ok)(zU:Qa md=0)(vD:1<=gn)(hg:gn < 2^md.rel.length):
 Calls Tryz.prog 189 #[v,.int .i64 (gn:Int)] w fun e w'=>∃u,e=.returned u/\Qg w w'/\Jn w' u ((List.range md.n.toNat).map (Yz md.rel gn false md.n.toNat)):=by
 have H:=Qq h;have zE:=Qq zP;have HC:=Qq zU;have eg:∀args w,(callFunc 211 args).run Tryz.prog w=.ok (.enter 211 args) w:=fun _ _=>rfl
 have HG:=Qq (fun(w:World) (h:Jk w v md)=>Qvb false 211 eg v md gn w h zP zU vD hg Zzv);obtain⟨vv,vr,rfl,hv,hr⟩:=h;clear zP zU eg hv hr;go_enter Tryz.func189,Tryz.ntmps189;go_wp2_with(go_at_call 209;refine(HG.out _ (H.out.ext ((Qg.refl w).alloc _))).mono ?_;rintro e w1 ⟨u,rfl,hx,hm⟩;have HX:=Qq (((Qg.refl w).alloc _).trans hx);have HM:=Qq hm;clear hx hm);go_ret;exact⟨_,rfl,HX.out,HM.out.u64s⟩
theorem Qha(v:Value)(md:Md)(gn:Nat)(w:World)(h:Jk w v md)(zP:md.ok)(zU:Qa md=0)(vD:1<=gn)(hg:gn < 2^md.rel.length):
 Calls Tryz.prog 188 #[v,.int .i64 (gn:Int)] w fun e w'=>∃u,e=.returned u/\Qg w w'/\Jn w' u ((List.range md.n.toNat).map (Yz md.rel gn true md.n.toNat)):=by
 have H:=Qq h;have zE:=Qq zP;have HC:=Qq zU;have eg:∀args w,(callFunc 210 args).run Tryz.prog w=.ok (.enter 210 args) w:=fun _ _=>rfl
 have HG:=Qq (fun(w:World) (h:Jk w v md)=>Qvb true 210 eg v md gn w h zP zU vD hg Qw0);obtain⟨vv,vr,rfl,hv,hr⟩:=h;clear zP zU eg hv hr;go_enter Tryz.func188,Tryz.ntmps188;go_wp2_with(go_at_call 209;refine(HG.out _ (H.out.ext ((Qg.refl w).alloc _))).mono ?_;rintro e w1 ⟨u,rfl,hx,hm⟩;have HX:=Qq (((Qg.refl w).alloc _).trans hx);have HM:=Qq hm;clear hx hm);go_ret;exact⟨_,rfl,HX.out,HM.out.u64s⟩
end Go.Proofs.YtkmclcmnoicagaaGreatDoor
