/- The reference's checker: Sets, the walk. -/
import Derived.Test.YtkmclcmnoicagaaGreatDoorL18
import Derived.Test.YtkmclcmnoicagaaGreatDoorL19
namespace Go.Proofs.YtkmclcmnoicagaaGreatDoor
set_option maxRecDepth 100000
set_option maxHeartbeats 128000000
open Go.RowKit
theorem Qwn(vm v:Value)(md:Md)(f:List Nd)(w:World)(hm:Yz w vm md)(zO:md.ok)(h:Jo w v f):
 Calls Tryz.prog 148 #[vm,v] w fun e w'=>∃u,e=.returned (.tuple #[u,.int .i64 (Jq md f)])/\Qg w w'/\Hid (Zv w.heap.size w' u (if Jq md f=0 then Kc md f f.length else [])):=by
 have H:=Qq h;have HM:=Qq hm;have zC:=Qq zO;obtain⟨iU,sR,xG,xF,xE⟩:=info_parts Dz;obtain⟨vv,vr,rfl,⟨Av,cv,rfl,_⟩,⟨Ar,cr,rfl,_⟩⟩:=hm;obtain⟨⟨A,c,rfl,hfc,pP,zN⟩,_⟩:=h;have uJ:=Qq zN;unfold maxLen at pP;clear zO zN;have zL:=Qq (show Qg w (w.alloc (.cells #[.int .i64 md.n,.slice Av md.val.length cv,.slice Ar md.rel.length cr] 26))from Qz.alloc _);have vX:=Qq (show(w.alloc (.cells #[.int .i64 md.n,.slice Av md.val.length cv,.slice Ar md.rel.length cr] 26)).heap[w.heap.size]?=some (.cells #[.int .i64 md.n,.slice Av md.val.length cv,.slice Ar md.rel.length cr] 26 (0,0))from heap_alloc_new _ _)
 obtain⟨er,tW⟩:∃er,er=Jq md f:=⟨_,rfl⟩;have wE:=Qq tW;rw [<-tW];clear tW;by_cases hz:er=0
 ·subst hz;obtain⟨xK,aH,_,_⟩:=Vb wE.out.symm;have sW:=Qq xK;have cW:=Qq aH;obtain⟨wH,yW,vA,gF,_,_,_⟩:=Zb xK;have bJ:=Qq (show md.n.toNat<=64 by omega);have KQ:=Qq vA;have iH:=(Jf aH).2.1;clear xK aH wH yW vA gF;go_enter Tryz.func148,Tryz.ntmps148;go_wp2_with fail;refine(Qzm _ _ md f _ (HM.out.ext zL.out) zC.out (H.out.ext zL.out)).mono ?_;rintro e w1 ⟨rfl,zP⟩;rw [<-wE.out];have zM:=Qq (zL.out.trans zP);have wO:=Qq ((zP.block (Qn vX.out)).trans vX.out);obtain⟨b,hb⟩:∃b,b=w.heap.size:=⟨_,rfl⟩;rw [<-hb]at wO⊢;have rA:=Qq (show b < w1.heap.size from Qn wO.out)
  clear zP vX hb;go_wp2_with fail;go_loopw [7,8] (fun vo vi wr=>∃k:Nat,vi=.int .i64 (k:Int)/\k<=f.length/\Hid (Qg w1 wr/\Zv w1.heap.size wr vo (Kc md f k))) (fun _ v _=>f.length - (intOf v).toNat)
  case atStart=>exact⟨0,rfl,Nat.zero_le _,Qq ⟨Qz,Zv.nil _ _⟩⟩
  case round =>
   obtain⟨k,rfl,hk,zY⟩:=hrel;have HX:=Qq zY.out.1;have tE:=Qq zY.out.2;obtain⟨out,yH⟩:∃o,o=Kc md f k:=⟨_,rfl⟩;have tJ:out.length<=f.length:=by rw [yH,Sx];exact hk
   have qC:=Qq (show out.length=k by rw [yH,Sx]);have iV:=Qq (show ∀s∈out,Qp s by rw [yH];exact Qxe zC.out bJ.out f k);have lK:=Qq yH;rw [<-yH]at tE;obtain⟨Ax,cx,rfl⟩:=Qs tE.out;obtain⟨e0,e1,e2,eb⟩:=Zs ((HX.out.block rA.out).trans wO.out);have yZ:=Qq (zM.out.trans HX.out);clear zY yH;by_cases hlt2:k < f.length
   ·have yT:(k:Int) < (f.length:Int):=by omega
    have xS:out.length+1<=maxLen:=by unfold maxLen;omega
    have xR:(out.length+1)*8<=140737488355328:=by omega
    obtain⟨wq,vE⟩:∃v,v=wr:=⟨_,rfl⟩;subst vE;obtain⟨ft,NO⟩:∃t,t=Ce md f (k:Int):=⟨_,rfl⟩;have WW:=Qq NO;clear NO;go_wp2_with fail;refine(Qlx _ _ md f (k:Int) _ (HM.out.ext yZ.out) (H.out.ext yZ.out)).mono ?_;rintro e w2 ⟨rfl,zT⟩;rw [<-WW.out];have zS:=Qq (HX.out.trans zT);have mH:=Qq (tE.out.ext zT);have uU:=Qq (yZ.out.trans zT);clear zT e0 e1 e2 eb;cases ft
    ·have nQ:=Qq (show Kc md f (k+1)=out++ [0] by
      show Kc md f k++ [Ef md f (Kc md f k) k]=_;rw [<-lK.out];unfold Ef;rw [<-WW.out]
      rfl)
     go_wp2_with(at_builtin;refine wpList_append_own_at _ rfl _ _ 23 rfl w1.heap.size 41 iU (.int .u64 0) 1 8 Tryz.underlying23 sR xG xF xE rfl (by decide) _ out.length (uV out) rfl (Zk mH.out (Qz.alloc _)) ⟨_,0,none⟩ 1 1 [.int .u64 0] rfl rfl (Zt _ _ _ (by simp)) (fun u hu=>by rw [List.mem_singleton.1 hu];rfl) xS xR (Qx zS.out.size (by simp)) ?_);intro v7 w7 zW zX _ _;have qY:=Qq (show Qg w1 w7 from(zS.out.alloc _).grown zX (fun k hk=>(mH.out.lt k hk).1));have pA:=Qq (show Zv w1.heap.size w7 v7 (Kc md f (k+1)) by
      rw [nQ.out];unfold Zv uV;rw [List.map_append,List.length_append];exact zW)
     obtain⟨A7,c7,rfl⟩:=Qs zW;clear zW zX;go_wp2_with fail;go_roundw
     case rel=>exact⟨k+1,by go_num,by omega,Qq ⟨qY.out,pA.out⟩⟩
     case measure=>simp [intOf];omega
    obtain⟨n,hn⟩:∃n,f[k]?=some n:=⟨_,Qv hlt2⟩;have kB:=Qq (Qk7 cW.out hn WW.out.symm KQ.out);have lL:=Qq (show f.getD k Nd.zero=n by rw [Qk,hn];rfl);have iM:=Qq (Yb cW.out k n hn);obtain⟨ad,rfl,zV,zJ⟩:=uJ.out (by intro e;rw [e]at hlt2;simp at hlt2);have iW:=Qq (zJ k n hn);obtain⟨c0,c1,c2,c3,c4,c5⟩:=(zJ k n hn).keep fun p hp=>uU.out.cell (p:=p) (by rw [hp,Qt];exact zV)
    have xQ:(ad.add (k*6)).block < w2.heap.size:=by rw [Qt];exact Qy zV uU.out.size
    have nQ:=Qq (show Kc md f (k+1)=out++ [Uo md n (if Qi n.op then out.getD n.x.toNat 0 else 0) (if Qe n.op then out.getD n.y.toNat 0 else 0)] by
     show Kc md f k++ [Ef md f (Kc md f k) k]=_;rw [<-lK.out];unfold Ef;rw [<-WW.out,lL.out]
     rfl)
    clear hn zJ;obtain⟨bx,vL⟩:∃t,t=Qi n.op:=⟨_,rfl⟩;obtain⟨by_,qQ⟩:∃t,t=Qe n.op:=⟨_,rfl⟩;have QZ:=Qq vL;have QY:=Qq qQ;rw [<-vL,<-qQ]at nQ iM;clear vL qQ;have vL:(Value.slice Ax out.length cx).ownBlock≠some b:=fun e=>by
     have h1:=(mH.out.lt b e).1;have h2:=rA.out;omega
    have vW:=Qq vL;have zE:=Qq (show(Value.slice Ax out.length cx).ownBlock≠some (ad.add (k*6)).block from fun e=>by
     have h1:=(mH.out.lt _ e).1;rw [Qt]at h1;have h2:=zM.out.size
     omega)
    clear vL;cases bx
    case' false =>
     cases by_
     case' true=>(have M7:=Vf QY.out.symm;rw [<-QZ.out]at M7;cases M7)
     obtain⟨xval,oB⟩:∃v:Nat,v=0:=⟨_,rfl⟩;have YS:=Qq (show Qp xval by rw [oB];show(0:Nat) < _;omega);obtain⟨yv,iZ⟩:∃v:Nat,v=0:=⟨_,rfl⟩;have FD:=Qq (show Qp yv by rw [iZ];show(0:Nat) < _;omega);have VY:=Qq (show Kc md f (k+1)=out++ [Uo md n xval yv] by rw [nQ.out];simp only [if_false,Bool.false_eq_true];rw [oB];rw [iZ]);have G6:=Qq oB;clear oB;have FB:=Qq iZ;clear iZ
    case' true =>
     cases by_
     case' false =>
      obtain⟨OM,TZ⟩:=iM.out.1 rfl;obtain⟨ix,mO⟩:=Int.eq_ofNat_of_zero_le OM;have UG:ix < out.length:=by rw [qC.out];omega
      have ND:(ix:Int) < (out.length:Int):=by omega
      obtain⟨gx,cpx,RX,gxl,_,_,_,mR,_⟩:=mH.out.slice (by omega);injection RX with hge1 _ hge2;subst hge1 hge2;have ox:=mR ix UG;rw [mO]at c4;obtain⟨xval,oB⟩:∃v,v=out.getD ix 0:=⟨_,rfl⟩;rw [<-oB]at ox;have YS:=Qq (show Qp xval by rw [oB];exact Yg iV.out ix);have VN:=Qq (show out.getD n.x.toNat 0=xval by rw [oB,mO];rfl);clear mR oB OM TZ;obtain⟨yv,iZ⟩:∃v:Nat,v=0:=⟨_,rfl⟩;have FD:=Qq (show Qp yv by rw [iZ];show(0:Nat) < _;omega);have VY:=Qq (show Kc md f (k+1)=out++ [Uo md n xval yv] by rw [nQ.out];simp only [if_true,if_false,Bool.false_eq_true];rw [VN.out];rw [iZ])
      have FB:=Qq iZ;clear iZ
     case' true =>
      obtain⟨OM,TZ⟩:=iM.out.1 rfl;obtain⟨ix,mO⟩:=Int.eq_ofNat_of_zero_le OM;have UG:ix < out.length:=by rw [qC.out];omega
      have ND:(ix:Int) < (out.length:Int):=by omega
      obtain⟨gx,cpx,RX,gxl,_,_,_,mR,_⟩:=mH.out.slice (by omega);injection RX with hge1 _ hge2;subst hge1 hge2;have ox:=mR ix UG;rw [mO]at c4;obtain⟨xval,oB⟩:∃v,v=out.getD ix 0:=⟨_,rfl⟩;rw [<-oB]at ox;have YS:=Qq (show Qp xval by rw [oB];exact Yg iV.out ix);have VN:=Qq (show out.getD n.x.toNat 0=xval by rw [oB,mO];rfl);clear mR oB OM TZ;obtain⟨V4,CS⟩:=iM.out.2 rfl;obtain⟨iy,UF⟩:=Int.eq_ofNat_of_zero_le V4;have DH:iy < out.length:=by rw [qC.out];omega
      have Q7:(iy:Int) < (out.length:Int):=by omega
      have oy:=(mH.out.at_ (by omega)).2.2.2.2.2.1 iy DH;rw [UF]at c5;obtain⟨yv,iZ⟩:∃v,v=out.getD iy 0:=⟨_,rfl⟩;rw [<-iZ]at oy;have FD:=Qq (show Qp yv by rw [iZ];exact Yg iV.out iy);have FC:=Qq (show out.getD n.y.toNat 0=yv by rw [iZ,UF];rfl);clear iZ V4 CS;have VY:=Qq (show Kc md f (k+1)=out++ [Uo md n xval yv] by rw [nQ.out];simp only [if_true];rw [VN.out];rw [FC.out])
    all_goals
     go_wp2_with fail;refine(Qf0 n.op _).mono ?_;rintro e w3 ⟨rfl,rfl⟩;rw [<-QZ.out];go_wp2_with fail;refine(Qf1 n.op _).mono ?_;rintro e w4 ⟨rfl,rfl⟩;rw [<-QY.out];go_upto_region 15 with(fail);obtain⟨e0,e1,e2,eb⟩:=Zs ((zS.out.block rA.out).trans wO.out);refine Yp 11 (fun w'=>w'.cell? (⟨b,0,none⟩)=some (.int .i64 md.n)/\w'.cell? (⟨b,1,none⟩)=some (.slice Av md.val.length cv)/\w'.cell? (⟨b,2,none⟩)=some (.slice Ar md.rel.length cr)/\w'.cell? (ad.add (k*6))=some (.int .i64 n.op)/\w'.cell? (⟨(ad.add (k*6)).block,(ad.add (k*6)).off+1,none⟩)=some (.int .i64 n.i)/\w'.cell? (⟨(ad.add (k*6)).block,(ad.add (k*6)).off+2,none⟩)=some (.int .i64 n.e)/\w'.cell? (⟨(ad.add (k*6)).block,(ad.add (k*6)).off+3,none⟩)=some (.int .i64 n.g)/\w'.cell? (⟨(ad.add (k*6)).block,(ad.add (k*6)).off+4,none⟩)=some (.int .i64 _)/\w'.cell? (⟨(ad.add (k*6)).block,(ad.add (k*6)).off+5,none⟩)=some (.int .i64 _)) (by kernel_rfl) ⟨xd eb e0,xd eb e1,xd eb e2,xd xQ c0,xd xQ c1,xd xQ c2,xd xQ c3,xd xQ c4,xd xQ c5⟩ (fun zZ=> ?_)
     refine Zz 0 zZ ?_;refine Zz 1 zZ ?_;refine Zz 2 zZ ?_;refine Zz 3 zZ ?_;refine Zz 4 zZ ?_;refine Zz 5 zZ ?_;refine Zz 6 zZ ?_;refine Zz 7 zZ ?_;refine Qo (rs:= [8]) (by kernel_rfl) (by simp) ?_;refine Zj.cons rfl (fun K hK=> ?_) Zj.nil;go_simp;have h1:=Qc3 (.agg #[.int .i64 md.n,.slice Av md.val.length cv,.slice Ar md.rel.length cr]) md n xval yv w2.drew (HM.out.ext (uU.out.trans (Qz.drew))) zC.out sW.out kB.out YS.out FD.out;unfold Nd.val at h1;obtain⟨ov,dQ⟩:∃o,o=Uo md n xval yv:=⟨_,rfl⟩;have PL:=Qq dQ;rw [<-dQ]at h1;clear dQ
     first|rw [G6.out,FB.out]at h1|rw [mO,FB.out]at h1|rw [mO,UF]at h1
     refine h1.mono ?_;clear h1;rintro e w3 ⟨rfl,yK⟩;have zF:Qg w2 w3:=Qg.trans (Qz.drew) yK;have zD:=Qq zF;have Y9:=Qq (mH.out.ext zF);clear yK;go_wp2_with fail;refine hK.out _ _ ⟨xd eb e0,xd eb e1,xd eb e2,xd xQ c0,xd xQ c1,xd xQ c2,xd xQ c3,xd xQ c4,xd xQ c5⟩ (fun zZ=> ?_);clear hK K;refine Qb ?_;refine Qo (rs:= [9]) (by kernel_rfl) (by simp) ?_;refine Zj.cons rfl (fun K hK=> ?_) Zj.nil;go_simp;refine hK.out _ _ ⟨xd eb e0,xd eb e1,xd eb e2,xd xQ c0,xd xQ c1,xd xQ c2,xd xQ c3,xd xQ c4,xd xQ c5⟩ (fun zZ=> ?_);clear hK K;refine Qb ?_;refine Qo (rs:= [10]) (by kernel_rfl) (by simp) ?_
     refine Zj.cons rfl (fun K hK=> ?_) Zj.nil;refine Ga rfl (.tmp 59) (.tmp 68) 23 rfl w1.heap.size 41 iU (.int .u64 0) 1 8 Tryz.underlying23 sR xG xF xE rfl (by decide) _ out.length (uV out) (by simp [Act.eval]) (Zk Y9.out xv) ⟨w3.heap.size,0,none⟩ 1 1 [.int .u64 (ov:Int)] (by simp [Act.eval]) rfl (by exact Zt _ _ _ rfl) (fun u hu=>by rw [List.mem_singleton.1 hu];rfl) xS xR (Qx (zS.out.trans zD.out).size (by simp)) ?_;intro v7 w7 zW zX zH;have qY:=Qq (show Qg w1 w7 from((zS.out.trans zD.out).alloc _).grown zX (fun k hk=>(Y9.out.lt k hk).1))
     have pA:=Qq (show Zv w1.heap.size w7 v7 (Kc md f (k+1)) by
      rw [VY.out,<-PL.out];unfold Zv uV;rw [List.map_append,List.length_append];exact zW)
     obtain⟨A7,c7,qA⟩:=Qs zW;subst qA;have kb:=(Qk9 zX vW.out (Qy eb zF.size)).trans (zF.block eb);have kn:=(Qk9 zX zE.out (Qy xQ zF.size)).trans (zF.block xQ);have E0:=(Fp (p:=⟨b,0,none⟩) kb).trans e0;have E1:=(Fp (p:=⟨b,1,none⟩) kb).trans e1;have E2':=(Fp (p:=⟨b,2,none⟩) kb).trans e2;have C0:=(Fp (p:=ad.add (k*6)) kn).trans c0;have C1:=(Fp (p:=⟨(ad.add (k*6)).block,(ad.add (k*6)).off+1,none⟩) kn).trans c1;have C2:=(Fp (p:=⟨(ad.add (k*6)).block,(ad.add (k*6)).off+2,none⟩) kn).trans c2;have C3:=(Fp (p:=⟨(ad.add (k*6)).block,(ad.add (k*6)).off+3,none⟩) kn).trans c3
     have C4:=(Fp (p:=⟨(ad.add (k*6)).block,(ad.add (k*6)).off+4,none⟩) kn).trans c4;have C5:=(Fp (p:=⟨(ad.add (k*6)).block,(ad.add (k*6)).off+5,none⟩) kn).trans c5;clear zW zX zH kb kn;refine hK.out _ _ ⟨E0,E1,E2',C0,C1,C2,C3,C4,C5⟩ (fun zZ=> ?_);clear hK K;refine Qb ?_;refine Yi (by kernel_rfl) rfl (fun K hK=> ?_);go_simp;refine hK.out _ _ ?_;clear hK K;refine Qb ?_;refine Yo (by kernel_rfl) ?_ _;go_wp2_with fail;go_roundw
     case rel=>exact⟨k+1,by go_num,by omega,Qq ⟨qY.out,pA.out⟩⟩
     case measure=>simp [intOf];omega
   obtain rfl:f.length=k:=by omega
   go_wp2_with fail;go_ret2;exact⟨_,rfl,yZ.out,Qq (by(try rw [if_pos rfl]);(try rw [<-lK.out]);exact Kl tE.out zM.out.size)⟩
 have sH:(er==0)=false:=by rw [beq_eq_false_iff_ne];exact hz
 have HZ:=Qq hz;clear hz;go_enter Tryz.func148,Tryz.ntmps148;go_wp2_with fail;refine(Qzm _ _ md f _ (HM.out.ext zL.out) zC.out (H.out.ext zL.out)).mono ?_;rintro e w1 ⟨rfl,zP⟩;rw [<-wE.out];have zM:=Qq (zL.out.trans zP);clear zP;go_wp2_with fail;go_ret2;exact⟨_,rfl,zM.out,Qq (by(try rw [if_neg HZ.out]);exact Zv.nil _ _)⟩
theorem Qrg(vm v:Value)(md:Md)(f:List Nd)(w:World)(hm:Yz w vm md)(zO:md.ok)(h:Jo w v f):
 Calls Tryz.prog 78 #[vm,v] w fun e w'=>e=.returned (.tuple #[.int .u64 ((Bw md f:Nat):Int),.int .i64 (Sc md f)])/\Qg w w':=by
 have H:=Qq h;have HM:=Qq hm;have zC:=Qq zO;obtain⟨vv,vr,rfl,⟨Av,cv,rfl,_⟩,⟨Ar,cr,rfl,_⟩⟩:=hm;obtain⟨A,c,rfl,_⟩:=Qc h;clear zO h;have zL:=Qq (show Qg w (w.alloc (.cells #[.int .i64 md.n,.slice Av md.val.length cv,.slice Ar md.rel.length cr] 26))from Qz.alloc _);have vX:=Qq (show(w.alloc (.cells #[.int .i64 md.n,.slice Av md.val.length cv,.slice Ar md.rel.length cr] 26)).heap[w.heap.size]?=some (.cells #[.int .i64 md.n,.slice Av md.val.length cv,.slice Ar md.rel.length cr] 26 (0,0))from heap_alloc_new _ _);obtain⟨b,hb⟩:∃b,b=w.heap.size:=⟨_,rfl⟩;go_enter Tryz.func78,Tryz.ntmps78;go_upto_region 1 with(fail)
 obtain⟨W0,zB⟩:∃W,W=w.alloc (.cells #[.int .i64 md.n,.slice Av md.val.length cv,.slice Ar md.rel.length cr] 26):=⟨_,rfl⟩;rw [<-zB]at zL vX⊢;rw [<-hb]at vX⊢;clear hb zB;obtain⟨e0,e1,e2,eb⟩:=Zs vX.out;refine Yp 8 (fun w'=>w'.cell? (⟨b,0,none⟩)=some (.int .i64 md.n)/\w'.cell? (⟨b,1,none⟩)=some (.slice Av md.val.length cv)/\w'.cell? (⟨b,2,none⟩)=some (.slice Ar md.rel.length cr)) (by kernel_rfl) ⟨xd eb e0,xd eb e1,xd eb e2⟩ (fun zZ=> ?_);refine Zz 0 zZ ?_;refine Zz 1 zZ ?_;refine Qo (rs:= [2]) (by kernel_rfl) (by simp) ?_;refine Zj.cons rfl (fun K hK=> ?_) Zj.nil
 go_simp;refine(Sh _ f _ (H.out.ext (zL.out.trans xv))).mono ?_;rintro e w1 ⟨u,rfl,uR⟩;have zP:Qg W0 w1:=Qg.trans xv uR.2.2;have XB:=Qq uR.fml;have zM:=Qq (zL.out.trans zP);clear uR;go_wp2_with fail;refine hK.out _ _ ⟨xd eb e0,xd eb e1,xd eb e2⟩ (fun zZ=> ?_);clear hK K;refine Qb ?_;refine Qo (rs:= [3]) (by kernel_rfl) (by simp) ?_;refine Zj.cons rfl (fun K hK=> ?_) Zj.nil;go_simp;refine(Qwn _ _ md (Qf f) _ (HM.out.ext zM.out) zC.out XB.out).mono ?_;rintro e w2 ⟨us,rfl,cY,HU⟩;have zT:Qg W0 w2:=zP.trans cY;have zS:=Qq (zM.out.trans cY)
 clear cY;obtain⟨er,tW⟩:∃er,er=Jq md (Qf f):=⟨_,rfl⟩;have wE:=Qq tW;rw [<-tW]at HU⊢;clear tW;go_wp2_with fail;refine hK.out _ _ ⟨xd eb e0,xd eb e1,xd eb e2⟩ (fun zZ=> ?_);clear hK K;refine Qb ?_;refine Zz 4 zZ ?_;refine Zz 5 zZ ?_;refine Zz 6 zZ ?_;refine Zz 7 zZ ?_;refine Yi (by kernel_rfl) rfl (fun K hK=> ?_);go_simp;refine hK.out _ _ ?_;clear hK K;refine Qb ?_;refine Yo (by kernel_rfl) ?_ _;by_cases hz:er=0
 ·subst hz;have FT:=Qq (show Zv w1.heap.size w2 us (Kc md (Qf f) (Qf f).length) by have:=HU.out;rw [if_pos rfl]at this;exact this);have qI:0 < (Qf f).length:=(Jf (Vb wE.out.symm).2.1).1;have gK:(Qf f).length<=1000:=Qx (Jf (Vb wE.out.symm).2.1).2.1 (by decide);have IX:=Qq (show Sc md f=0 by unfold Sc;rw [if_pos wE.out.symm]);have fO:=Qq (show Bw md f=(Kc md (Qf f) (Qf f).length).getD ((Qf f).length - 1) 0 by unfold Bw;rw [if_pos wE.out.symm]);have oD:=Sx md (Qf f) (Qf f).length
  obtain⟨sl,ZW⟩:∃l,l=Kc md (Qf f) (Qf f).length:=⟨_,rfl⟩;rw [<-ZW]at FT fO oD;rw [<-oD]at qI gK fO;obtain⟨n,hn⟩:∃n,sl.length=n+1:=⟨sl.length - 1,by omega⟩;obtain⟨Au,cu,rfl⟩:=Qs FT.out;obtain⟨g,cp,RX,gl,_,_,_,mR,_⟩:=FT.out.slice (by omega);injection RX with hge1 _ hge2;subst hge1 hge2;have yR:=mR n (by omega);rw [hn]at fO qI⊢;clear ZW mR;go_wp2_with fail;go_ret2;exact⟨by rw [IX.out,fO.out];rfl,zS.out⟩
 have sH:(er==0)=false:=by rw [beq_eq_false_iff_ne];exact hz
 have IX:=Qq (show Sc md f=Jq md f by unfold Sc;rw [if_neg (by rw [<-wE.out];exact hz)]);have fO:=Qq (show Bw md f=0 by unfold Bw;rw [if_neg (by rw [<-wE.out];exact hz)]);have hzn:(er !=0)=true:=by simp [bne,sH]
 go_wp2_with fail;refine(Qzm _ _ md f _ (HM.out.ext zS.out) zC.out (H.out.ext zS.out)).mono ?_;rintro e w3 ⟨rfl,zF⟩;go_wp2_with fail;go_ret2;exact⟨by rw [IX.out,fO.out];rfl,zS.out.trans zF⟩
theorem Qyq {a b n:Nat}(h:a < 2^n):Jk a b < 2^n:=Qv3 fun i hi=>by
 rw [Gd,Bool.and_eq_true]at hi;exact Kw h hi.1
theorem Ho(n:Nat):Zn n < 2^n:=by
 unfold Zn;have:=Nat.two_pow_pos n;omega
theorem Qab {op:Int} {x y n:Nat}(hx:x < 2^n)(hy:y < 2^n):Gk op x y (Zn n) < 2^n:=by
 have h:=Nat.two_pow_pos n;unfold Gk
 repeat' split
 ·exact Ho n
 ·exact Qyq (Ho n)
 ·exact Nat.lt_of_le_of_lt Nat.and_le_left hx
 ·exact Nat.or_lt_two_pow hx hy
 ·exact Nat.or_lt_two_pow (Qyq (Ho n)) hy
 ·exact Qyq (Ho n)
 exact h
theorem Qsa {md:Md}(zU:Qa md=0) {n:Nd} {x y:Nat}(hx:x < 2^md.n.toNat)(hy:y < 2^md.n.toNat):Uo md n x y < 2^md.n.toNat:=by
 unfold Uo
 split
 ·have hb:=(Zb zU).2.2.2.2.2.1;unfold Zf at hb;rw [List.any_eq_false]at hb;rw [Qk];cases e:md.val[n.i.toNat]? with
  |none=>exact Nat.two_pow_pos _
  |some s =>
   have:=hb s (List.mem_of_getElem? e)
   simpa using this
 split
 ·exact Qab hx hy
 split
 ·exact Ns _ _
 split
 ·exact Qyq (Ho _)
 split
 ·exact Ns _ _
 split
 ·exact Ns _ _
 exact Ns _ _
theorem Tn {l:List Nat} {b:Nat}(h:∀s∈l,s < b)(hb:0 < b)(i:Nat):l.getD i 0 < b:=by
 rw [Qk];cases e:l[i]? with
 |none=>exact hb
 |some s=>exact h s (List.mem_of_getElem? e)
theorem Qfc {md:Md}(zU:Qa md=0)(f:List Nd):∀k,∀s∈Kc md f k,s < 2^md.n.toNat
 |0,s,hs=>by cases hs
 |k+1,s,hs=>by
  have ih:=Qfc zU f k;have h0:=Nat.two_pow_pos md.n.toNat;rcases List.mem_append.1 hs with h|h
  ·exact ih s h
  rw [List.mem_singleton.1 h];unfold Ef
  split
  ·refine Qsa zU ?_ ?_
   ·split
    ·exact Tn ih h0 _
    exact h0
   split
   ·exact Tn ih h0 _
   exact h0
  exact h0
theorem Qyw {md:Md} {f:List Nd}(h:Jq md (Qf f)=0):check f=0:=by
 refine Classical.byContradiction fun hn=> ?_
 have wU:=(Vb h).2.1;have:Qf f= []:=by
  unfold Qf Jn;rw [show(check f !=0)=true by simpa using hn];rfl
 rw [this]at wU;exact Qpz wU
def Qvr(r:List Nat)(s:Nat):Nat:=if Jh r.length r=0 then Jk (Zn r.length) (Vg r r.length (Zn 64^^^s))else 0
theorem Qt4 {s:Nat}(hs:Qp s):Qp (Zn 64^^^s):=Qkn (Vn (Nat.le_refl _)) hs
theorem Qtl {s:Nat}(hs:Qp s):bits .xor .u64 IntKind.u64.max (s:Int)=((Zn 64^^^s:Nat):Int):=Qvf (a:=Zn 64) (Vn (Nat.le_refl _)) hs
theorem Qe8(v:Value)(r:List Nat)(s:Nat)(w:World)(h:Jb w v r)(hw:∀s∈r,Qp s)(hs:Qp s):
 Calls Tryz.prog 187 #[v,.int .u64 (s:Int)] w fun e w'=>e=.returned (.int .u64 ((Qvr r s:Nat):Int))/\Qg w w':=by
 have H:=Qq h;obtain⟨A,c,rfl,_,_,HL⟩:=Vl h;have sK:=Qq hw;have HS:=Qq (Qt4 hs);have kC:=Qq (Qtl hs);clear h hw hs;by_cases zU:Jh r.length r=0
 ·have hn:=Nx zU;have HC:=Qq zU;have HB:=Qq (show Na r (Zn 64^^^s)=Vg r r.length (Zn 64^^^s) by unfold Na;rw [if_pos HC.out]);have HD:=Qq (show Qvr r s=Jk (Zn r.length) (Na r (Zn 64^^^s)) by rw [HB.out];unfold Qvr;rw [if_pos HC.out]);have M4:=Qq (Vy (a:=Zn r.length) (b:=Na r (Zn 64^^^s)) (Vn hn) (by rw [HB.out];exact Fi hn _));clear zU;go_enter Tryz.func187,Tryz.ntmps187;go_wp2_with(first|(go_at_call 113;refine(Gx _ r _ H.out sK.out).mono ?_;rintro e w1 ⟨rfl,zP⟩;rw [HC.out];have zM:=Qq zP;clear zP)|(go_at_call 115;refine(Qqa r.length hn _).mono ?_;rintro e w3 ⟨rfl,rfl⟩)|(rw [kC.out];go_at_call 186;refine(Mc _ r _ _ (H.out.ext zM.out) sK.out HS.out).mono ?_;rintro e w4 ⟨rfl,yE⟩;have yN:=Qq yE;clear yE))
  go_ret;exact⟨by rw [HD.out,<-M4.out] <;> rfl,zM.out.trans yN.out⟩
 have HC:=Qq zU;have HB:=Qq (show Qvr r s=0 by unfold Qvr;rw [if_neg HC.out]);obtain⟨ce,cG⟩:∃z,z=Jh r.length r:=⟨_,rfl⟩;rw [<-cG]at zU;have zQ:(ce !=0)=true:=by simpa using zU
 have JC:=Qq cG;clear zU cG;go_enter Tryz.func187,Tryz.ntmps187;go_wp2_with(go_at_call 113;refine(Gx _ r _ H.out sK.out).mono ?_;rintro e w1 ⟨rfl,zP⟩;rw [<-JC.out];have zM:=Qq zP;clear zP);go_ret;exact⟨by rw [HB.out] <;> rfl,zM.out⟩
theorem Qra(v:Value)(r:List Nat)(n c s:Nat)(w:World)(h:Jb w v r)(hw:∀s∈r,Qp s)(hl:r.length=n)(zU:Jh r.length r=0)(hc:Qp c)(hs:Qp s):
 Calls Tryz.prog 190 #[v,.int .u64 ((Zn n:Nat):Int),.int .u64 (c:Int),.int .u64 (s:Int)] w fun e w'=>e=.returned (.int .u64 ((Xb r n c s:Nat):Int))/\Qg w w':=by
 have H:=Qq h;have sK:=Qq hw;have hn:n<=64:=by rw [<-hl];exact Nx zU
 have nR:=Qq (Qky (r:=r) (n:=n) hl (by
  have:=(Fz (l:=r)).1 (by unfold Xj;rw [zU];rfl);rw [hl]at this;exact this.2))
 have bQ:=Qq (Vn hn);have HC:=Qq hc;have HS:=Qq hs;have vW:=Qq (show ∀m,Na r m=Vg r n m from fun m=>by unfold Na;rw [if_pos zU,hl]);have AO:=Qq (Vy (Vn hn) hc);clear h hw zU hc hs hl;go_enter Tryz.func190,Tryz.ntmps190;go_wp2_with fail;go_loopw [9] (fun v wr=>∃out:Nat,v=.int .u64 (out:Int)/\Hid (Qp out)/\Hid (Qg w wr)/\Hid ((∀i,(Xb r n c s).testBit i=true->out.testBit i=true)/\∀i,(gfF r n c s out).testBit i=true->out.testBit i=true)) (fun v _=>(intOf v).toNat)
 case atStart=>exact⟨Zn n,rfl,bQ,Qq Qz,Qq ⟨Qdy nR.out,Qa9 nR.out⟩⟩
 case round =>
  obtain⟨out,rfl,HO,HX,HI⟩:=hrel;have AN:=Qq (Xy HS.out HO.out);have AM:=Qq (Gq (a:=Jk (Zn n) c) (b:=s&&&out) (Ub bQ.out) (Rf HS.out));have Z4:=Qq (show Qp (Jk (Zn n) c|||(s&&&out))from Oi (Ub bQ.out) (Rf HS.out));obtain⟨nx,rC⟩:∃x,x=gfF r n c s out:=⟨_,rfl⟩;have zE:=Qq rC;have AI:=Qq (show Na r (Jk (Zn n) c|||(s&&&out))=nx by rw [vW.out,rC];rfl);have J5:=Qq (show Qp nx by rw [rC];exact Fi hn _);clear rC;by_cases hd:nx=out
  ·have US:((nx:Int)==(out:Int))=true:=by simp [hd]
   have HE:=Qq (Qt0 nR.out (by rw [<-zE.out];exact hd) HI.out.1);clear hd;go_wp2_with(rw [AO.out,AN.out,AM.out];go_at_call 186;refine(Mc _ r _ _ (H.out.ext HX.out) sK.out Z4.out).mono ?_;rintro e w4 ⟨rfl,yE⟩;rw [AI.out];have yN:=Qq yE;clear yE);go_ret;exact⟨by rw [HE.out] <;> rfl,HX.out.trans yN.out⟩
  have US:((nx:Int)==(out:Int))=false:=by simp only [beq_eq_false_iff_ne,ne_eq,Int.natCast_inj];exact hd
  have fL:=Qq (Zj0 (by rw [zE.out];exact HI.out.2) hd);clear hd;go_wp2_with(rw [AO.out,AN.out,AM.out];go_at_call 186;refine(Mc _ r _ _ (H.out.ext HX.out) sK.out Z4.out).mono ?_;rintro e w4 ⟨rfl,yE⟩;rw [AI.out];have yN:=Qq yE;clear yE);go_roundw
  case rel=>exact⟨nx,rfl,J5,Qq (HX.out.trans yN.out),Qq (by rw [zE.out];exact⟨Qdj nR.out HI.out.1,Zjk nR.out HI.out.2⟩)⟩
  case measure=>have:=fL.out;simp [intOf];omega
theorem Ql5(v:Value)(l:List Nat)(w:World)(h:Jb w v l)(h0:0 < l.length)(uG:l.length<=64):
 Calls Tryz.prog 221 #[v] w fun e w'=>∃u,e=.returned u/\Zv w.heap.size w' u l/\Qg w w':=by
 obtain⟨A,c,rfl,_,_,HL⟩:=Vl h;obtain⟨iU,sR,xG,xF,xE⟩:=info_parts Dz;clear h;obtain⟨ad,rfl,zV,_⟩:=HL.out 0 h0;have tF:=Qq (show ∀(j:Nat) u,(uV l)[j]?=some u->(w.alloc (.cells #[] 41)).cell? (ad.add j)=some u from De fun i hi=>by
  obtain⟨ad2,e,_,hc⟩:=HL.out i hi;injection e with e;subst e;exact(((Qg.refl w).alloc _).cell (p:=ad.add i) (Qj zV)).trans hc)
 have rV:=Qq (Sk w 41);have q:∀(w:World) (a:Option Addr) (n c n' c':Nat),(binOp .eql 23 (.slice a n c) (.slice none n' c')).run Tryz.prog w=.ok (.bool a.isNone) w:=fun w a n c n' c'=>Lib.run_eql_slice_nil w _ _ a n c n' c' Tryz.underlying23
 obtain⟨n,hn⟩:∃n,n=l.length:=⟨_,rfl⟩;have HN:=Qq hn;rw [<-hn]at uG h0⊢;have uR:0+n<=maxLen:=by unfold maxLen;omega
 have xO:(0+n)*8<=140737488355328:=by omega
 clear hn;go_enter Tryz.func221,Tryz.ntmps221;go_wp2_with(at_builtin;refine wpList_append_own_at _ rfl _ _ 23 rfl w.heap.size 41 iU (.int .u64 0) 1 8 Tryz.underlying23 sR xG xF xE rfl (by decide) _ 0 [] rfl rV.out ad n c (uV l) rfl (by rw [Es,Nat.mul_one];exact HN.out.symm) tF.out (Et l) uR xO (by simp) ?_);intro v3 w3 xZ yI _ _;have zD:=Qq (show Qg w w3 from((Qg.refl w).alloc _).grown yI (fun k hk=>by have h2:w.heap.size=k:=Option.some.inj hk;omega));have HM:=Qq (show Zv w.heap.size w3 v3 l by
  unfold Zv;rw [<-HN.out];exact xZ)
 clear xZ yI;obtain⟨g,cap,rfl,xP,uC,_,xK,_,_⟩:=HM.out.slice (by rw [<-HN.out];exact h0);rw [<-HN.out]at HM⊢;clear xP;go_wp2_with fail;go_ret;exact⟨_,rfl,HM.out,zD.out⟩
def Qdl(n:Nat)(meet:Bool):Nat:=if meet then Zn n else 0
def Qvo(rl:List (List Nat))(gn:Nat)(meet:Bool)(n k:Nat):List Nat:=(List.range n).map fun i=>(List.range k).foldl (Fx rl gn meet i) (Qdl n meet)
def Ll(gn k:Nat):Bool:=(List.range k).any fun a=>gn.testBit a
def Td(rl:List (List Nat))(gn:Nat)(meet:Bool)(n k:Nat):List Nat:=bif Ll gn k then Qvo rl gn meet n k else []
theorem Rd(gn k:Nat):Ll gn (k+1)=(Ll gn k||gn.testBit k):=by
 unfold Ll;rw [List.range_succ,List.any_append];simp
theorem Qim {rl:List (List Nat)} {gn n k:Nat} {meet:Bool}(h:gn.testBit k=false):Td rl gn meet n (k+1)=Td rl gn meet n k:=by
 unfold Td;rw [Rd,h,Bool.or_false]
 congr 1
 unfold Qvo;refine List.map_congr_left fun i _=> ?_
 rw [Ve];unfold Fx;rw [h];rfl
theorem Qp1 {rl:List (List Nat)} {gn n k:Nat} {meet:Bool}(h:Ll gn k=false) {i:Nat} :(List.range k).foldl (Fx rl gn meet i) (Qdl n meet)=Qdl n meet:=by
 induction k with
 |zero=>rfl
 |succ k ih =>
  rw [Rd,Bool.or_eq_false_iff]at h;rw [Ve,ih h.1];unfold Fx;rw [h.2];rfl
theorem Qlb {rl:List (List Nat)} {gn n k:Nat} {meet:Bool}(h:gn.testBit k=true)(hn:Ll gn k=false)(hl:(rl.getD k []).length=n)(vY:∀s∈rl.getD k [],s < 2^n):Td rl gn meet n (k+1)=rl.getD k []:=by
 unfold Td;rw [Rd,h,Bool.or_true];show Qvo rl gn meet n (k+1)=_;refine List.ext_getElem (by rw [hl];unfold Qvo;rw [List.length_map,List.length_range]) fun i h1 h2=> ?_
 simp only [Qvo,List.getElem_map,List.getElem_range];rw [Ve,Qp1 hn];unfold Fx Qdl;rw [h];have e:(rl.getD k []).getD i 0=(rl.getD k [])[i]:=by rw [Qk,Qv h2];rfl
 rw [e];have hs:=vY _ (List.getElem_mem h2);cases meet
 ·simp
 simp only [↓reduceIte];refine Nat.eq_of_testBit_eq fun j=> ?_
 rw [Nat.testBit_and,Kb];cases hj:((rl.getD k [])[i]).testBit j
 ·simp
 rw [decide_eq_true (Kw hs hj)];rfl
theorem Qa7 {rl:List (List Nat)} {gn n:Nat} {meet:Bool}(h1:1<=gn)(hg:gn < 2^rl.length):Td rl gn meet n rl.length=(List.range n).map (Jw rl gn meet n):=by
 have ha:Ll gn rl.length=true:=by
  obtain⟨i,hi⟩:=Nat.exists_testBit_of_ne_zero (show gn≠0 by omega);exact List.any_eq_true.2 ⟨i,List.mem_range.2 (Kw hg hi),hi⟩
 unfold Td;rw [ha];rfl
theorem Qva {rl:List (List Nat)} {gn n k:Nat} {meet:Bool}(h:Ll gn k=true):(Td rl gn meet n k).length=n:=by
 unfold Td;rw [h];unfold Qvo;simp
def Sq(J:Nat->Nat->Nat)(o r:List Nat)(k:Nat):List Nat:=(List.range o.length).map fun i=>if i < k then J (o.getD i 0) (r.getD i 0)else o.getD i 0
theorem Qcl(J:Nat->Nat->Nat)(o r:List Nat):Sq J o r 0=o:=by
 refine List.ext_getElem (by simp [Sq]) fun i h1 h2=> ?_
 simp only [Sq,List.getElem_map,List.getElem_range];rw [if_neg (Nat.not_lt_zero _),Qk,Qv h2];rfl
theorem Mp(J:Nat->Nat->Nat)(o r:List Nat)(k:Nat):(Sq J o r k).length=o.length:=by simp [Sq]
theorem Qeh {J:Nat->Nat->Nat} {o r:List Nat} {k i:Nat}(hi:i < o.length):(Sq J o r k).getD i 0=if i < k then J (o.getD i 0) (r.getD i 0)else o.getD i 0:=by
 unfold Sq;rw [Qk,List.getElem?_map,List.getElem?_range hi];rfl
theorem Qct {J:Nat->Nat->Nat} {o r:List Nat} {k:Nat}(_hk:k < o.length):(Sq J o r k).set k (J (o.getD k 0) (r.getD k 0))=Sq J o r (k+1):=by
 refine List.ext_getElem (by simp [Sq]) fun i h1 h2=> ?_
 have hi:i < o.length:=by rw [Mp]at h2;exact h2
 rw [List.getElem_set]
 split
 ·rename_i e;subst e;simp only [Sq,List.getElem_map,List.getElem_range];rw [if_pos (Nat.lt_succ_self _)]
 rename_i e;simp only [Sq,List.getElem_map,List.getElem_range];by_cases h3:i < k
 ·rw [if_pos h3,if_pos (by omega)]
 rw [if_neg h3,if_neg (by omega)]
theorem Qpo {rl:List (List Nat)} {gn n k:Nat} {meet:Bool}(h:gn.testBit k=true)(hn:Ll gn k=true):Sq (fun x y=>if meet then x&&&y else x|||y) (Td rl gn meet n k) (rl.getD k []) n=Td rl gn meet n (k+1):=by
 have hl:=Qva (rl:=rl) (n:=n) (meet:=meet) hn;refine List.ext_getElem (by rw [Mp,hl,Qva (by rw [Rd,hn];rfl)]) fun i h1 h2=> ?_
 have hi:i < n:=by rw [Mp,hl]at h1;exact h1
 simp only [Sq,List.getElem_map,List.getElem_range,Td,Rd,hn,Bool.true_or,cond_true,Qvo];rw [if_pos hi,Ve,Qk,List.getElem?_map,List.getElem?_range hi];simp only [Option.map_some,Option.getD_some];unfold Fx;rw [h];cases meet <;> rfl
theorem Qj4 {w:World} {b:Nat} {a0 a1 a2:Value} {t:TypeId}(h:w.heap[b]?=some (.cells #[a0,a1,a2] t (0,0))):w.cell? ⟨b,0,none⟩=some a0/\w.cell? ⟨b,1,none⟩=some a1/\w.cell? ⟨b,2,none⟩=some a2/\b < w.heap.size :=
 ⟨by simp [World.cell?,h],by simp [World.cell?,h],by simp [World.cell?,h],Qn h⟩
theorem Qy6(meet:Bool)(g:Nat)(eg:∀args w,(callFunc g args).run Tryz.prog w=.ok (.enter g args) w)(v:Value)(md:Md)(gn:Nat)(w:World)(h:Yz w v md)(zO:md.ok)(zU:Qa md=0)(vK:1<=gn)(hg:gn < 2^md.rel.length)
 (hJ:∀(W:World) (x y:Nat),Qp x->Qp y->Calls Tryz.prog g #[.int .u64 (x:Int),.int .u64 (y:Int)] W fun e w'=>e=.returned (.int .u64 ((if meet then x&&&y else x|||y:Nat):Int))/\W=w'):
 Calls Tryz.prog 209 #[v,.int .i64 (gn:Int),.func (.func g) #[] #[]] w fun e w'=>∃u,e=.returned u/\Qg w w'/\Zv w.heap.size w' u ((List.range md.n.toNat).map (Jw md.rel gn meet md.n.toNat)):=by
 have H:=Qq h;have zC:=Qq zO;have yF:=Qq zU;have HJ:=Qq hJ;obtain⟨wH,yW,vA,_,uZ,_,vY⟩:=Zb zU;obtain⟨vv,vr,rfl,hv,hr⟩:=h;obtain⟨Av,cv,rfl,_⟩:=hv;obtain⟨Ar,cr,rfl,dK,TH,HR⟩:=Ut hr;obtain⟨n,uN⟩:=Int.eq_ofNat_of_zero_le (show 0<=md.n by omega);rw [uN]at wH yW H uZ vY⊢;have bZ:((n:Nat):Int).toNat=n:=Int.toNat_natCast n;rw [bZ]at vY⊢;have dU:n<=64:=by omega
 have pK:0 < n:=by omega
 have uP:=decide_eq_false (Qjm vA hg);have NN:¬(gn:Int) < 1:=by omega
 have wI:min md.rel.length 64=md.rel.length:=by omega
 obtain⟨rl,wG⟩:∃l,l=md.rel:=⟨_,rfl⟩;have fA:=Qq (show ∀r∈rl,∀s∈r,Qp s by rw [wG];exact zO.rel);have bA:=Qq (show ∀r∈rl,r.length=n by rw [wG];exact fun r hr=>by have:=uZ r hr;omega);have xY:=Qq (show ∀r∈rl,Zf r n=false by rw [wG];exact vY);rw [<-wG]at HR dK vA uP wI hg⊢;have UL:gn < 9223372036854775808:=by have:(2:Nat)^rl.length<=2^4:=Nat.pow_le_pow_right (by omega) vA;omega
 have L4:=Qq (Qa7 (rl:=rl) (n:=n) (meet:=meet) vK hg);have zL:=Qq (show Qg w (w.alloc (.cells #[.int .i64 (n:Int),.slice Av md.val.length cv,.slice Ar rl.length cr] 26))from Qz.alloc _);have vX:=Qq (show(w.alloc (.cells #[.int .i64 (n:Int),.slice Av md.val.length cv,.slice Ar rl.length cr] 26)).heap[w.heap.size]?=some (.cells #[.int .i64 (n:Int),.slice Av md.val.length cv,.slice Ar rl.length cr] 26 (0,0))from heap_alloc_new _ _);have H2:=Qq (show Yz w (.agg #[.int .i64 (n:Int),.slice Av md.val.length cv,.slice Ar rl.length cr]) md by rw [wG];exact H.out);clear hr zO zU uN wG hg uZ bZ H vK hJ vY
 go_enter Tryz.func209,Tryz.ntmps209;go_wp2_with(go_at_call 93;refine(Xm _ md _ (H2.out.ext zL.out) zC.out).mono ?_;rintro e w1 ⟨rfl,zP⟩;rw [yF.out];have zM:=Qq (zL.out.trans zP);have wO:=Qq ((zP.block (Qn vX.out)).trans vX.out);obtain⟨e0,e1,e2,eb⟩:=Qj4 wO.out;clear zP);clear e0 e1 e2 eb;go_loopw [7,29] (fun vo vi wr=>∃k:Nat,vi=.int .i64 (k:Int)/\k<=rl.length/\Hid (Qg w1 wr/\Zv w1.heap.size wr vo (Td rl gn meet n k)/\(Ll gn k=false->vo=.slice none 0 0))) (fun _ v _=>rl.length - (intOf v).toNat)
 case atStart=>exact⟨0,rfl,Nat.zero_le _,Qq ⟨Qz,Zv.nil _ _,fun _=>rfl⟩⟩
 case round =>
  obtain⟨k,rfl,hk,zY⟩:=hrel;have HX:=Qq zY.out.1;have HM:=Qq zY.out.2.1;have fH:=Qq zY.out.2.2;obtain⟨e0,e1,e2,eb⟩:=Qj4 ((HX.out.block (Qn wO.out)).trans wO.out);clear zY;by_cases hlt2:k < rl.length
  ·have yT:(k:Int) < (rl.length:Int):=by omega
   have dW:min k 64=k:=by omega
   obtain⟨ad,u,rfl,zV,yR,hu⟩:=HR.out k hlt2;have wR:rl.getD k []∈rl:=by rw [Qk,Qv hlt2];exact List.getElem_mem hlt2
   have yU:(rl.getD k []).length=n:=bA.out _ wR;have rT:=Qq (zM.out.trans HX.out);have a0:=(rT.out.cell (p:=ad.add k) (Qj zV)).trans yR;have al:(ad.add k).block < wr.heap.size:=by rw [Qt];exact Qy zV rT.out.size
   have HU:=Qq (hu.ext rT.out);have tE:=Qq (fA.out _ wR);have GE:=Qq (show ∀s∈rl.getD k [],s < 2^n from fun s hs=>by
    have:=List.any_eq_false.1 (xY.out _ wR) s hs
    simpa using this)
   have tM:=Iv gn k UL;have q:∀(w:World) (a:Option Addr) (n c n' c':Nat),(binOp .eql 23 (.slice a n c) (.slice none n' c')).run Tryz.prog w=.ok (.bool a.isNone) w:=fun w a n c n' c'=>Lib.run_eql_slice_nil w _ _ a n c n' c' Tryz.underlying23
   obtain⟨Au,cu,rfl,_,_,cK⟩:=Vl hu;rw [yU]at cK;clear yR;cases yC:gn.testBit k
   ·rw [yC]at tM;have zE:=Qq (Qim (rl:=rl) (n:=n) (meet:=meet) yC);have LF:=Qq (show Ll gn (k+1)=Ll gn k by rw [Rd,yC,Bool.or_false]);clear yC;go_wp2_with fail;go_roundw
    case rel=>exact⟨k+1,by go_num,by omega,Qq ⟨HX.out,by rw [zE.out];exact HM.out,by rw [LF.out];exact fH.out⟩⟩
    case measure=>simp [intOf];omega
   rw [yC]at tM;have LF:=Qq (show Ll gn (k+1)=true by rw [Rd,yC,Bool.or_true]);cases qR:Ll gn k
   ·have zE:=Qq (Qlb (rl:=rl) (n:=n) (meet:=meet) yC qR yU GE.out);obtain rfl:=fH.out qR;clear yC qR;rw [yU]at HU a0;go_wp2_with(go_at_call 221;refine(Ql5 _ (rl.getD k []) _ HU.out (by rw [yU];exact pK) (by rw [yU];exact dU)).mono ?_;rintro e w5 ⟨u5,rfl,MP,xH⟩;have YZ:=Qq (Kl MP HX.out.size);have yJ:=Qq (HX.out.trans xH);clear MP xH);go_roundw
    case rel=>exact⟨k+1,by go_num,by omega,Qq ⟨yJ.out,by rw [zE.out];exact YZ.out,fun h=>by rw [LF.out]at h;cases h⟩⟩
    case measure=>simp [intOf];omega
   have zE:=Qq (Qpo (rl:=rl) (n:=n) (meet:=meet) yC qR);have tJ:=Qva (rl:=rl) (n:=n) (meet:=meet) qR;obtain⟨o,ho⟩:∃o,o=Td rl gn meet n k:=⟨_,rfl⟩;rw [<-ho]at HM zE tJ;have iV:=Qq (show ∀s∈o,Qp s by
    rw [ho];unfold Td;rw [qR];intro s hs;obtain⟨i,_,rfl⟩:=List.mem_map.1 hs;exact Fh (fun s a h=>Wk fA.out h) _ _ (by unfold Qdl;cases meet;exact(show(0:Nat) < _ by omega);exact Vn dU))
   obtain⟨g0,cap,rfl,_,uC,_,_,_,_⟩:=HM.out.slice (by rw [tJ];exact pK);rw [tJ]at HM⊢;clear yC qR ho;obtain⟨r0,dM⟩:∃r,r=rl.getD k []:=⟨_,rfl⟩;have hr0l:r0.length=n:=by rw [dM];exact yU
   have fC:=Qq dM;rw [<-dM]at tE zE cK yU a0;rw [yU]at a0;clear dM;obtain⟨wq,vE⟩:∃v,v=wr:=⟨_,rfl⟩;subst vE;go_wp2_with fail;clear e0 e1 e2 eb a0 al;have G8:=Qq (zM.out.trans HX.out);go_loopw [45] (fun vi wr=>∃i:Nat,vi=.int .i64 (i:Int)/\i<=n/\Hid (Qg w1 wr/\Qg w wr/\Zv w1.heap.size wr (.slice (some ⟨g0,0,none⟩) n cap) (Sq (fun x y=>if meet then x&&&y else x|||y) o r0 i))) (fun v _=>n - (intOf v).toNat)
   case atStart=>exact⟨0,rfl,Nat.zero_le _,Qq ⟨HX.out,G8.out,by rw [Qcl];exact HM.out⟩⟩
   case round =>
    obtain⟨i,rfl,hi,zY⟩:=hrel;have FJ:=Qq zY.out.1;have yZ:=Qq zY.out.2.1;have uK:=Qq zY.out.2.2;clear zY;by_cases yQ:i < n
    ·have iG:(i:Int) < (n:Int):=by omega
     obtain⟨-,cl,-,-,-,wU,oI⟩:=uK.out.at_ (by rw [Mp,tJ];exact pK);have c0:=wU i (by rw [Mp,tJ];exact yQ);have f0:=oI i;rw [Qeh (by rw [tJ];exact yQ),if_neg (Nat.lt_irrefl _)]at c0;obtain⟨ud,rfl,tR,rZ⟩:=cK.out i yQ;have d0:=(yZ.out.cell (p:=ud.add i) (Qj tR)).trans rZ;have dl:(ud.add i).block < wr.heap.size:=by rw [Qt];exact Qy tR yZ.out.size
     have OO:=Qq (Yg iV.out i);have ON:=Qq (Yg tE.out i);have yY:=Qq (Qct (J:=fun x y=>if meet then x&&&y else x|||y) (o:=o) (r:=r0) (k:=i) (by rw [tJ];exact yQ));obtain⟨x,hx⟩:∃x,x=o.getD i 0:=⟨_,rfl⟩;obtain⟨y,hy⟩:∃y,y=r0.getD i 0:=⟨_,rfl⟩;rw [<-hx]at c0 OO yY;rw [<-hy]at d0 ON yY;obtain⟨z,hz⟩:∃z,z=(if meet then x&&&y else x|||y):=⟨_,rfl⟩;have K5:=Qq (show ∀W:World,Calls Tryz.prog g #[.int .u64 (x:Int),.int .u64 (y:Int)] W fun e w'=>e=.returned (.int .u64 (z:Int))/\W=w' from fun W=>by rw [hz];exact HJ.out W x y OO.out ON.out);have SJ:=Qq (show(Sq (fun x y=>if meet then x&&&y else x|||y) o r0 i).set i z=Sq (fun x y=>if meet then x&&&y else x|||y) o r0 (i+1) by rw [hz];exact yY.out)
     clear wU oI rZ hx hy hz yY;go_upto_region 13 with(fail);refine Yp 13 (fun w'=>w'.cell? (⟨g0,i,none⟩)=some (.int .u64 (x:Int))/\w'.cell? (ud.add i)=some (.int .u64 (y:Int))) (by kernel_rfl) ⟨xd cl c0,xd dl d0⟩ (fun zZ=> ?_);refine Zz 0 zZ ?_;refine Zz 1 zZ ?_;refine Zz 2 zZ ?_;refine Zz 3 zZ ?_;refine Zz 4 zZ ?_;refine Zz 5 zZ ?_;refine Zz 6 zZ ?_;refine Zz 7 zZ ?_;refine Zz 8 zZ ?_;refine Zz 9 zZ ?_;refine Zz 10 zZ ?_;refine Qo (rs:= [11]) (by kernel_rfl) (by simp) ?_;refine Zj.cons rfl (fun K hK=> ?_) Zj.nil;go_simp;refine(K5.out _).mono ?_
     rintro e w9 ⟨rfl,rfl⟩;go_wp2_with fail;refine hK.out _ _ ⟨xd cl c0,xd dl d0⟩ (fun zZ=> ?_);clear hK K;refine Qb ?_;refine Zz 12 zZ ?_;refine Yi (by kernel_rfl) rfl (fun K hK=> ?_);go_simp;refine hK.out _ _ ?_;clear hK K;refine Qb ?_;refine Yo (by kernel_rfl) ?_ _;have jX:=Qq (uK.out.set (by rw [Mp,tJ]) i z);rw [SJ.out]at jX;have cJ:=Qq (FJ.out.setCell (p:=⟨g0,i,none⟩) uC (.int .u64 ((z:Nat):Int)));have H8:=Qq (yZ.out.setCell (p:=⟨g0,i,none⟩) (Qx zM.out.size uC) (.int .u64 ((z:Nat):Int)));clear c0 f0 d0 cl dl FJ yZ uK;go_wp2_with fail;go_roundw
     case rel=>exact⟨i+1,by go_num,by omega,Qq ⟨cJ.out.drew,H8.out.drew,jX.out.ext (Qz.drew)⟩⟩
     case measure=>simp [intOf];omega
    obtain rfl:n=i:=by omega
    go_wp2_with fail;go_roundw
    case rel=>exact⟨k+1,by go_num,by omega,Qq ⟨FJ.out,by rw [<-zE.out];exact uK.out,fun h=>by rw [LF.out]at h;cases h⟩⟩
    case measure=>simp [intOf];omega
  obtain rfl:rl.length=k:=by omega
  go_wp2_with fail;go_ret;exact⟨_,rfl,zM.out.trans HX.out,by rw [<-L4.out];exact Kl HM.out zM.out.size⟩
theorem Zqb(W:World)(x y:Nat)(hx:Qp x)(hy:Qp y):Calls Tryz.prog 211 #[.int .u64 (x:Int),.int .u64 (y:Int)] W fun e w'=>e=.returned (.int .u64 ((if false then x&&&y else x|||y:Nat):Int))/\W=w':=by
 have HB:=Qq (Gq hx hy);clear hx hy;go_enter Tryz.func211,Tryz.ntmps211;go_wp2_with fail;go_ret;exact⟨by rw [<-HB.out] <;> rfl,rfl⟩
theorem Qe7(W:World)(x y:Nat)(hx:Qp x)(hy:Qp y):Calls Tryz.prog 210 #[.int .u64 (x:Int),.int .u64 (y:Int)] W fun e w'=>e=.returned (.int .u64 ((if true then x&&&y else x|||y:Nat):Int))/\W=w':=by
 have HB:=Qq (Xy hx hy);clear hx hy;go_enter Tryz.func210,Tryz.ntmps210;go_wp2_with fail;go_ret;exact⟨by rw [<-HB.out] <;> rfl,rfl⟩
theorem Qxd(v:Value)(md:Md)(gn:Nat)(w:World)(h:Yz w v md)(zO:md.ok)(zU:Qa md=0)(vK:1<=gn)(hg:gn < 2^md.rel.length):
 Calls Tryz.prog 189 #[v,.int .i64 (gn:Int)] w fun e w'=>∃u,e=.returned u/\Qg w w'/\Jb w' u ((List.range md.n.toNat).map (Jw md.rel gn false md.n.toNat)):=by
 have H:=Qq h;have zC:=Qq zO;have HC:=Qq zU;have eg:∀args w,(callFunc 211 args).run Tryz.prog w=.ok (.enter 211 args) w:=fun _ _=>rfl
 have HG:=Qq (fun(w:World) (h:Yz w v md)=>Qy6 false 211 eg v md gn w h zO zU vK hg Zqb);obtain⟨vv,vr,rfl,hv,hr⟩:=h;clear zO zU eg hv hr;go_enter Tryz.func189,Tryz.ntmps189;go_wp2_with(go_at_call 209;refine(HG.out _ (H.out.ext ((Qg.refl w).alloc _))).mono ?_;rintro e w1 ⟨u,rfl,hx,hm⟩;have HX:=Qq (((Qg.refl w).alloc _).trans hx);have HM:=Qq hm;clear hx hm);go_ret;exact⟨_,rfl,HX.out,HM.out.u64s⟩
theorem Qhq(v:Value)(md:Md)(gn:Nat)(w:World)(h:Yz w v md)(zO:md.ok)(zU:Qa md=0)(vK:1<=gn)(hg:gn < 2^md.rel.length):
 Calls Tryz.prog 188 #[v,.int .i64 (gn:Int)] w fun e w'=>∃u,e=.returned u/\Qg w w'/\Jb w' u ((List.range md.n.toNat).map (Jw md.rel gn true md.n.toNat)):=by
 have H:=Qq h;have zC:=Qq zO;have HC:=Qq zU;have eg:∀args w,(callFunc 210 args).run Tryz.prog w=.ok (.enter 210 args) w:=fun _ _=>rfl
 have HG:=Qq (fun(w:World) (h:Yz w v md)=>Qy6 true 210 eg v md gn w h zO zU vK hg Qe7);obtain⟨vv,vr,rfl,hv,hr⟩:=h;clear zO zU eg hv hr;go_enter Tryz.func188,Tryz.ntmps188;go_wp2_with(go_at_call 209;refine(HG.out _ (H.out.ext ((Qg.refl w).alloc _))).mono ?_;rintro e w1 ⟨u,rfl,hx,hm⟩;have HX:=Qq (((Qg.refl w).alloc _).trans hx);have HM:=Qq hm;clear hx hm);go_ret;exact⟨_,rfl,HX.out,HM.out.u64s⟩
end Go.Proofs.YtkmclcmnoicagaaGreatDoor
