/- The reference's Least. -/
import Derived.Test.YtkmclcmnoicagaaGreatDoorL35
import Derived.Test.YtkmclcmnoicagaaGreatDoorL33
namespace Go.Proofs.YtkmclcmnoicagaaGreatDoor
set_option maxRecDepth 100000
set_option maxHeartbeats 128000000
open Go.RowKit
theorem Qri(lg:Int)(v:Value)(f:List Nd)(most:Int)(w:World)(h:Jo w v f):
 Calls Tryz.prog 33 #[.int .i64 lg,v,.int .i64 most] w fun e w'=>∃u md er,e=.returned (.tuple #[u,.int .i64 er])/\Fr lg f most md er/\Qg w w'/\Kr (fun q=>q < w.heap.size) w' (fun W=>Yz W u md):=by
 have HF:=Qq h;obtain⟨Af,cf,rfl,_⟩:=Qc h;obtain⟨ck,zU⟩:∃z,z=check f:=⟨_,rfl⟩;have yF:=Qq zU;obtain⟨W0,zB⟩:∃W,W=w.alloc (.cells #[.int .i64 0,.slice none 0 0,.slice none 0 0] 26):=⟨_,rfl⟩;have X0:=Qq (show Qg w W0 by rw [zB];exact Qz.alloc _);obtain⟨b,hb⟩:∃b,b=w.heap.size:=⟨_,rfl⟩;have B0:=Qq (show W0.heap[b]?=some (.cells #[.int .i64 0,.slice none 0 0,.slice none 0 0] 26 (0,0)) by rw [zB,hb];exact heap_alloc_new _ _);have xY:=Qq (show w.heap.size<=b by omega);obtain⟨lo,wB⟩:∃z:Int,z=if 0<=lg/\lg<=6 then 0 else 1:=⟨_,rfl⟩
 have pB:=Qq wB;clear h zU;go_enter Tryz.func33,Tryz.ntmps33;go_upto_region 1 with(fail);rw [<-zB,<-hb];clear zB hb;go_wp2_with fail;refine(Qg6 lg _).mono ?_;rintro e w1 ⟨rfl,rfl⟩;rw [<-wB];clear wB;obtain⟨⟨r0,r1,r2⟩,⟨g0,g1,g2⟩,rl⟩:=Zp B0.out;by_cases jI:0<=lg/\lg<=6
 case neg =>
  obtain rfl:lo=1:=by rw [pB.out,if_neg jI]
  have HS:=Qq (show Fr lg f most ⟨0,[],[]⟩ 1 from .inl ⟨by decide,rfl,.inl ⟨by omega,rfl⟩⟩);clear jI;go_wp2_with fail
  (try simp only [Exit.inBlock,Exit.then])
  refine bodyPost_ret (Vw Tryz.results33 _ _ rfl (Jv (Vq B0.out _ _ _)) Tryz.underlying26 rfl (by kernel_rfl)) rfl ?_;exact Up rfl rfl (Yl X0.out xY.out _ _ _) HS.out
 obtain rfl:lo=0:=by rw [pB.out,if_pos jI]
 have rW:=Qq jI;clear jI;clear r0 r1 r2 g0 g1 g2 rl pB;go_wp2_with fail;refine(Xc _ f _ (HF.out.ext X0.out).1).mono ?_;rintro e w2 ⟨rfl,hx⟩;rw [<-yF.out];have S2:=Qq hx;have B2:=Qq ((hx.block (Qn B0.out)).trans B0.out);obtain⟨⟨r0,r1,r2⟩,⟨g0,g1,g2⟩,rl⟩:=Zp B2.out;clear hx;by_cases hz:ck=0
 case neg =>
  have zQ:(ck !=0)=true:=by simpa using hz
  have HS:=Qq (show Fr lg f most ⟨0,[],[]⟩ ck from .inl ⟨hz,rfl,.inr ⟨rW.out,.inl ⟨by rw [<-yF.out];exact hz,yF.out⟩⟩⟩);clear hz;go_wp2_with fail
  (try simp only [Exit.inBlock,Exit.then])
  refine bodyPost_ret (Vw Tryz.results33 _ _ rfl (Jv (Vq B2.out _ _ _)) Tryz.underlying26 rfl (by kernel_rfl)) rfl ?_;exact Up rfl rfl (Yl (X0.out.trans S2.out) xY.out _ _ _) HS.out
 subst hz;clear r0 r1 r2 g0 g1 g2 rl;go_wp2_with fail;refine(Sy _ f _ (HF.out.ext (X0.out.trans S2.out))).mono ?_;rintro e w3 ⟨rfl,hx⟩;have S3:=Qq (S2.out.trans hx);have B3:=Qq ((S3.out.block (Qn B0.out)).trans B0.out);obtain⟨⟨r0,r1,r2⟩,⟨g0,g1,g2⟩,rl⟩:=Zp B3.out;obtain⟨wQ,yD⟩:=Ty f;clear hx wQ;cases hsb:Jr (Js f) 15
 ·rw [hsb]at yD;have HS:=Qq (show Fr lg f most ⟨0,[],[]⟩ 10 from .inl ⟨by decide,rfl,.inr ⟨rW.out,.inr ⟨yF.out.symm,.inl ⟨hsb,rfl⟩⟩⟩⟩);clear hsb;go_wp2_with fail
  (try simp only [Exit.inBlock,Exit.then])
  refine bodyPost_ret (Vw Tryz.results33 _ _ rfl (Jv (Vq B3.out _ _ _)) Tryz.underlying26 rfl (by kernel_rfl)) rfl ?_;exact Up rfl rfl (Yl (X0.out.trans S3.out) xY.out _ _ _) HS.out
 rw [hsb]at yD;have lJ:=Qq hsb;clear hsb;by_cases jF:most < 1\/64 < most
 ·have HS:=Qq (show Fr lg f most ⟨0,[],[]⟩ 2 from .inl ⟨by decide,rfl,.inr ⟨rW.out,.inr ⟨yF.out.symm,.inr ⟨lJ.out,.inl ⟨jF,rfl⟩⟩⟩⟩⟩);have kU:most < 1\/(¬most < 1/\64 < most):=by omega
  clear jF;rcases kU with m1|⟨m1,m2⟩ <;>
  ·go_wp2_with fail
   (try simp only [Exit.inBlock,Exit.then])
   refine bodyPost_ret (Vw Tryz.results33 _ _ rfl (Jv (Vq B3.out _ _ _)) Tryz.underlying26 rfl (by kernel_rfl)) rfl ?_;exact Up rfl rfl (Yl (X0.out.trans S3.out) xY.out _ _ _) HS.out
 have m1:¬most < 1:=fun h=>jF (.inl h)
 have m2:¬64 < most:=fun h=>jF (.inr h)
 obtain⟨M,rfl⟩:=Int.eq_ofNat_of_zero_le (show 0<=most by omega);have D7:1<=M:=by omega
 have VJ:M<=64:=by omega
 have tP:=Qq (show 1<=((M:Nat):Int)/\((M:Nat):Int)<=64 by omega);have hh:=(Jj yF.out.symm).2.2.2;have vZ:=Dy (Qf f) 0 hh (by decide);have pR:=Rp (Qf f) 0 hh (by decide);obtain⟨am,lI⟩:∃x,x=Jd (Qf f):=⟨_,rfl⟩;obtain⟨fm,pP⟩:∃x,x=Je (Qf f):=⟨_,rfl⟩;rw [show(Qf f).foldl Se 0=am from lI.symm]at vZ;rw [show(Qf f).foldl So 0=fm from pP.symm]at pR;have bR:=Qq lI;have lQ:=Qq pP;have vJ:IntKind.u64.wrap (am:Int)=(am:Int):=by rw [IntKind.wrap_u64];omega
 have kR:IntKind.u64.wrap (fm:Int)=(fm:Int):=by rw [IntKind.wrap_u64];omega
 have sS:=Hl vZ;have sD:=Hl pR;have kF:=Qq (show am < 256 by omega);have nC:=Qq (show fm < 256 by omega);clear jF hh lI pP vZ pR r0 r1 r2 g0 g1 g2 rl;go_wp2_with fail;refine(Pg _ f _ (HF.out.ext (X0.out.trans S3.out)) yF.out.symm).mono ?_;rintro e w5 ⟨rfl,hx⟩;rw [<-bR.out];have S5:=Qq (S3.out.trans hx);clear hx;go_wp2_with fail;refine(Qfz am kF.out _).mono ?_;rintro e w6 ⟨rfl,rfl⟩;go_wp2_with fail;refine(Hj _ f _ (HF.out.ext (X0.out.trans S5.out)) yF.out.symm).mono ?_;rintro e w7 ⟨rfl,hx⟩;rw [<-lQ.out];have S7:=Qq (S5.out.trans hx);clear hx;go_wp2_with fail
 refine(Qfz fm nC.out _).mono ?_;rintro e w8 ⟨rfl,rfl⟩;obtain⟨A,hA⟩:∃z,z=Yj am:=⟨_,rfl⟩;obtain⟨V,hV⟩:∃z,z=Yj fm:=⟨_,rfl⟩;have bS:=Qq (show A=Fw f by rw [hA,bR.out];rfl);have VR:=Qq (show V=Fo f by rw [hV,lQ.out];rfl);rw [<-hA]at sS⊢;rw [<-hV]at sD⊢;clear hA hV vJ kR;go_wp2_with fail;refine(Im M A V VJ sS sD _).mono ?_;rintro e w9 ⟨rfl,rfl⟩;have uL:=Qq (show Zh M A V=Zh ((M:Nat):Int).toNat (Fw f) (Fo f) by rw [Int.toNat_natCast,bS.out,VR.out]);have PW:=Qq (fun n (h:n<=M)=>Qdo (a:=A) (v:=V) h);obtain⟨L,hL⟩:∃z,z=Zh M A V:=⟨_,rfl⟩;rw [<-hL]at uL PW⊢
 clear hL;have B7:=Qq ((S7.out.block (Qn B0.out)).trans B0.out);by_cases h12:12 < L
 ·have hq:(12:Int) < (L:Int):=by omega
  have HS:=Qq (show Fr lg f ((M:Nat):Int) ⟨0,[],[]⟩ 8 from .inl ⟨by decide,rfl,.inr ⟨rW.out,.inr ⟨yF.out.symm,.inr ⟨lJ.out,.inr ⟨tP.out,.inl ⟨by rw [<-uL.out];exact h12,rfl⟩⟩⟩⟩⟩⟩);obtain⟨⟨r0,r1,r2⟩,⟨g0,g1,g2⟩,rl⟩:=Zp B7.out;clear h12;go_wp2_with fail
  (try simp only [Exit.inBlock,Exit.then])
  refine bodyPost_ret (Vw Tryz.results33 _ _ rfl (Jv (Vq B7.out _ _ _)) Tryz.underlying26 rfl (by kernel_rfl)) rfl ?_;exact Up rfl rfl (Yl (X0.out.trans S7.out) xY.out _ _ _) HS.out
 have hq:¬(12:Int) < (L:Int):=by omega
 have lM:=Qq (show L<=12 by omega);clear h12;go_wp2_with fail;have fB:=Qq (show((M:Nat):Int).toNat=M from Int.toNat_natCast M);rw [fB.out]at uL;go_loopw [12] (fun v wr=>∃n:Nat,v=.int .i64 (n:Int)/\1<=n/\n<=M+1/\Hid (Qg W0 wr/\Dn lg f n 0)) (fun v _=>M+1 - (intOf v).toNat)
 case atStart=>exact⟨1,rfl,Nat.le_refl _,by omega,Qq ⟨S7.out,fun m j h1 h2=>by omega,fun j hj=>absurd hj (by omega)⟩⟩
 case round =>
  obtain⟨n,rfl,wH,hnM,zY⟩:=hrel;have HX:=Qq zY.out.1;have HN:=Qq zY.out.2;clear zY;by_cases zI:n<=M
  ·have yT:(n:Int)<=(M:Int):=by omega
   have yW:n<=64:=by omega
   have pN:Zh n A V<=12:=Qx (PW.out n zI) lM.out;have nU:=Qq (fun(k:Nat) (h:k < 2^Zh n A V) (w:World)=>Qbk n A V k w wH yW sS sD pN h);have fN:=Qq (show Zh n A V=Zh n (Fw f) (Fo f) by rw [bS.out,VR.out]);have qL:min (Zh n A V) 64=Zh n A V:=by omega
   have mK:IntKind.u64.wrap ((Zh n A V:Nat):Int)=((Zh n A V:Nat):Int):=by rw [IntKind.wrap_u64];omega
   have J7:=Qq (fun k=>(Qfy (k:=k) wH yW sS sD));have wA:=Qq (Im n A V yW sS sD);have yD:IntKind.i64.wrap ((2:Int)^Zh n A V)=((2^Zh n A V:Nat):Int):=Mw pN;have uQ:2^Zh n A V<=4096:=show 2^Zh n A V<=2^12 from Nat.pow_le_pow_right (by decide) pN
   obtain⟨ln,UC⟩:∃z,z=Zh n A V:=⟨_,rfl⟩;rw [<-UC]at nU fN qL mK yD wA pN uQ;obtain⟨P,hP⟩:∃z,z=2^ln:=⟨_,rfl⟩;rw [<-hP]at nU yD uQ;have HP:=Qq (show P=2^Zh n (Fw f) (Fo f) by rw [hP,fN.out]);have wP:=Qq yD;have KW:=Qq qL;have V8:=Qq mK;clear UC hP yD qL mK;go_wp2_with fail;go_loopw [13] (fun v wr=>∃k:Nat,v=.int .i64 (k:Int)/\k<=P/\Hid (Qg W0 wr/\Dn lg f n k)) (fun v _=>P - (intOf v).toNat)
   case atStart=>exact⟨0,rfl,Nat.zero_le _,Qq ⟨HX.out,HN.out⟩⟩
   case round =>
    clear HX HN;obtain⟨k,rfl,CY,zY⟩:=hrel;have HX:=Qq zY.out.1;have HN:=Qq zY.out.2;clear zY;by_cases xD:k < P
    ·have wW:(k:Int) < (P:Int):=Int.ofNat_lt.2 xD;have Z3:=Qq (nU.out k xD);obtain⟨dr,jP⟩:∃z,z=Uy n A V k:=⟨_,rfl⟩;have hG:=Qq (show dr=Uy n (Fw f) (Fo f) k by rw [jP,bS.out,VR.out]);have XE:=Qq (show dr.ok by rw [jP];exact Ow (J7.out k));rw [<-jP]at Z3;clear jP;have yD:=wP.out;have qL:=KW.out;have mK:=V8.out;go_wp2_with fail;refine(wA.out _).mono ?_;rintro e w2 ⟨rfl,rfl⟩;go_wp2_with fail;refine(Z3.out _).mono ?_;rintro e w3 ⟨u,rfl,hx,hf⟩;have gZ:=Qq hf;have zD:=Qq hx;obtain⟨d0,A1,d1,c1,A2,d2,c2,rfl⟩:=Nt hf.here;obtain⟨w5,sT⟩:∃z,z=w3.alloc (.cells #[.int .i64 d0,.slice A1 d1 c1,.slice A2 d2 c2] 26):=⟨_,rfl⟩
     have yJ:=Qq (show Qg w3 w5 by rw [sT];exact Qz.alloc _);have pD:=Qq (show w5.heap[w3.heap.size]?=some (.cells #[.int .i64 d0,.slice A1 d1 c1,.slice A2 d2 c2] 26 (0,0)) by rw [sT];exact heap_alloc_new _ _);clear hf hx yD qL mK;go_upto_region 21 with(fail);rw [<-sT];obtain⟨xb,sX⟩:∃z,z=w3.heap.size:=⟨_,rfl⟩;rw [<-sX]at pD⊢;clear sT sX;obtain⟨e0,e1,e2,el⟩:=Zs pD.out;go_wp2_with fail;refine(Qro lg _ _ f dr 0 _ (HF.out.ext (X0.out.trans (HX.out.trans (zD.out.trans yJ.out)))) (gZ.out _ (Yk.of_ext yJ.out)) XE.out).mono ?_;rintro e w4 ⟨rfl,yE⟩;have yN:=Qq (HX.out.trans (zD.out.trans (yJ.out.trans yE)))
     have fY:=Qq ((yE.block (Qn pD.out)).trans pD.out);have cV:=Qq (gZ.out.next (X':=fun q=>q < wr.heap.size) (Yk.of_ext (yJ.out.trans yE)) (fun _ _ h=>h));clear yE e0 e1 e2 el;obtain⟨c0,nM⟩:∃z,z=Uh lg f dr 0:=⟨_,rfl⟩;have fU:=Qq nM;rw [<-nM];clear nM;by_cases tK:c0=0
     ·subst tK;obtain⟨e0,e1,e2,el⟩:=Zs fY.out;have vI:=Qq ((yN.out.block (Qn B0.out)).trans B0.out);obtain⟨⟨r0,r1,r2⟩,⟨g0,g1,g2⟩,rl⟩:=Zp vI.out;have HS:=Qq (show Fr lg f ((M:Nat):Int) dr 0 from .inr ⟨rfl,rW.out,yF.out.symm,lJ.out,tP.out,by rw [fB.out,<-uL.out];exact lM.out,n,k,wH,by rw [fB.out];exact zI,by rw [<-HP.out];exact xD,hG.out,fU.out.symm,HN.out⟩);have FN:=Qq (show b < wr.heap.size from Qy (Qn B0.out) HX.out.size);have FM:=Qq (show w.heap.size<=wr.heap.size from Qx X0.out.size HX.out.size)
      have vT:=Qq (show Kr (fun q=>q < w.heap.size) (((w4.setCell ⟨b,0,none⟩ (.int .i64 d0)).setCell ⟨b,1,none⟩ (.slice A1 d1 c1)).setCell ⟨b,2,none⟩ (.slice A2 d2 c2)) (fun W=>Yz W (.agg #[.int .i64 d0,.slice A1 d1 c1,.slice A2 d2 c2]) dr)from
       cV.out.keep FM.out (by simp [World.setCell]) (fun q h1 _=>Xn (by have:=FN.out;omega) _ _ _))
      go_wp2_with fail
      (try simp only [Exit.inBlock,Exit.then])
      refine bodyPost_ret (Vw Tryz.results33 _ _ rfl (Jv (Vq vI.out _ _ _)) Tryz.underlying26 rfl (by kernel_rfl)) rfl ?_;exact⟨_,dr,0,rfl,HS.out,Yl (X0.out.trans yN.out) xY.out _ _ _,vT.out⟩
     have zQ:(c0==0)=false:=by rw [beq_eq_false_iff_ne];exact tK
     have zE:=Qq (HN.out.step (by rw [<-hG.out,<-fU.out];exact tK));clear tK;go_wp2_with fail;go_roundw
     case rel=>exact⟨k+1,by go_num,xD,Qq ⟨yN.out,zE.out⟩⟩
     case measure=>simp [intOf] <;> omega
    obtain rfl:P=k:=Nat.le_antisymm (Nat.le_of_not_lt xD) CY;have rL:=Qq (show Dn lg f (n+1) 0 from by have:=HN.out;rw [HP.out]at this;exact this.turn);have yD:=wP.out;have qL:=KW.out;have mK:=V8.out;clear xD;go_wp2_with fail;refine(wA.out _).mono ?_;rintro e w2 ⟨rfl,rfl⟩;go_wp2_with fail;go_roundw
    case rel=>exact⟨n+1,by go_num,by omega,by omega,Qq ⟨HX.out,rL.out⟩⟩
    case measure=>simp [intOf] <;> omega
  obtain rfl:n=M+1:=by omega
  have HS:=Qq (show Fr lg f ((M:Nat):Int) ⟨0,[],[]⟩ 6 from .inl ⟨by decide,rfl,.inr ⟨rW.out,.inr ⟨yF.out.symm,.inr ⟨lJ.out,.inr ⟨tP.out,.inr ⟨by rw [fB.out,<-uL.out];exact lM.out,rfl,by rw [fB.out];exact HN.out⟩⟩⟩⟩⟩⟩);have vI:=Qq ((HX.out.block (Qn B0.out)).trans B0.out);obtain⟨⟨r0,r1,r2⟩,⟨g0,g1,g2⟩,rl⟩:=Zp vI.out;have yT:¬(((M+1:Nat):Int)<=(M:Int)):=by omega
  go_wp2_with fail
  (try simp only [Exit.inBlock,Exit.then])
  refine bodyPost_ret (Vw Tryz.results33 _ _ rfl (Jv (Vq vI.out _ _ _)) Tryz.underlying26 rfl (by kernel_rfl)) rfl ?_;exact Up rfl rfl (Yl (X0.out.trans HX.out) xY.out _ _ _) HS.out
end Go.Proofs.YtkmclcmnoicagaaGreatDoor
