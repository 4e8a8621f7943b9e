/- The program's Generated. -/
import Derived.Test.YtkmclcmnoicagaaGreatDoorL29
import Derived.Test.YtkmclcmnoicagaaGreatDoorL30
namespace Go.Proofs.YtkmclcmnoicagaaGreatDoor
set_option maxRecDepth 100000
set_option maxHeartbeats 128000000
open Go.RowKit
theorem Cy.lowB {md:Md} {fr todo out:Nat}(h:Cy md fr todo out)(zU:Qa md=0)(xJ:Jr fr (Zn md.n.toNat)=true):∀i,out.testBit i=true->i < md.n.toNat :=
 h.least (fun i=>i < md.n.toNat) (fun i hi=>by
  have:=Yy.1 xJ i hi;rw [Kb,decide_eq_true_iff]at this;exact this) (fun a _ u _ v hv=>(Da zU a u v hv).2)
theorem Qby(vm:Value)(md:Md)(fr:Nat)(w:World)(hT:Kk w)(hm:Yz w vm md)(zO:md.ok)(zU:Qa md=0)(xJ:Jr fr (Zn md.n.toNat)=true)(hw:Qp fr):
 Calls Tryz.prog 80 #[vm,.int .u64 (fr:Int)] w fun e w'=>∃out:Nat,e=.returned (.tuple #[.int .u64 (out:Int),.int .i64 0])/\Ck md fr out/\Qp out/\Qg w w':=by
 have HM:=Qq hm;have zC:=Qq zO;have yF:=Qq zU;have wY:=Qq xJ;have HW:=Qq hw;have HT:=Qq hT;obtain⟨wH,yW,vA,_,uZ,_,_⟩:=Zb zU;have nR:=Qq (show ∀r∈md.rel,r.length=md.n.toNat from fun r hr=>by have:=uZ r hr;omega);obtain⟨vv,vr,rfl,⟨Av,cv,rfl,_⟩,hr⟩:=hm;obtain⟨Ar,cr,rfl,JP,kX,HR⟩:=Ut hr;obtain⟨N,oV⟩:=Int.eq_ofNat_of_zero_le (show 0<=md.n by omega);have nN:md.n.toNat=N:=by rw [oV];exact Int.toNat_natCast N
 have xI:N<=64:=by omega
 have rL:=Qq nN;rw [oV]at HM⊢;have jO:Jk fr (Zn N)=0:=by
  have:=Mk (a:=fr) (b:=Zn N);rw [<-nN,xJ]at this;rw [<-nN]
  simpa using this
 have xT:=Vy hw (Vn xI);rw [jO]at xT;obtain⟨nr,MC⟩:∃z,z=md.rel.length:=⟨_,rfl⟩;have fG:=Qq MC;have hnr4:nr<=4:=by rw [MC];exact vA
 obtain⟨W0,zB⟩:∃W,W=w.alloc (.cells #[.int .i64 (N:Int),.slice Av md.val.length cv,.slice Ar md.rel.length cr] 26):=⟨_,rfl⟩;have X0:=Qq (show Qg w W0 by rw [zB];exact Qz.alloc _);obtain⟨b,hb⟩:∃b,b=w.heap.size:=⟨_,rfl⟩;have B0:=Qq (show W0.heap[b]?=some (.cells #[.int .i64 (N:Int),.slice Av md.val.length cv,.slice Ar md.rel.length cr] 26 (0,0)) by rw [zB,hb];exact heap_alloc_new _ _);rw [<-MC]at B0;clear hT zO zU xJ hw wH yW hr oV nN jO uZ;go_enter Tryz.func80,Tryz.ntmps80;go_upto_region 1 with(fail);rw [<-zB,<-hb,<-MC];clear zB hb MC;obtain⟨e0,e1,e2,el⟩:=Zs B0.out;go_wp2_with fail
 refine(Xm _ md _ (by have:=HM.out.ext X0.out;rw [<-fG.out]at this;exact this) zC.out).mono ?_;rintro e w1 ⟨rfl,hx⟩;rw [yF.out];have zM:=Qq hx;obtain⟨e0,e1,e2,el⟩:=Zs ((hx.block (Qn B0.out)).trans B0.out);clear hx;go_wp2_with fail;refine(Qqe N xI _).mono ?_;rintro e w2 ⟨rfl,rfl⟩;go_wp2_with fail;clear e0 e1 e2 el xT;go_loopw [7,8] (fun vo vt wr=>∃out todo:Nat,vo=.int .u64 (out:Int)/\vt=.int .u64 (todo:Int)/\Hid (Cy md fr todo out/\Qp out/\Qp todo/\Qg w1 wr)) (fun vo vt _=>Qqg (intOf vt).toNat (intOf vo).toNat)
 case atStart=>exact⟨fr,fr,rfl,rfl,Qq ⟨Cy.start _ _,HW.out,HW.out,Qz⟩⟩
 case round =>
  obtain⟨out,todo,rfl,rfl,zY⟩:=hrel;obtain⟨gL,YB,XR,hx⟩:=zY.out;have KZ:=Qq gL;have iV:=Qq YB;have VW:=Qq XR;have sV:=Qq hx;clear zY gL YB XR hx;by_cases h0:todo=0
  ·subst h0;have zQ:(((0:Nat):Int) !=0)=false:=by simp
   have HX:=Qq (X0.out.trans (zM.out.trans sV.out));go_wp2_with fail;go_ret2;exact⟨out,rfl,KZ.out.done,iV.out,HX.out⟩
  have zQ:((todo:Int) !=0)=true:=by simpa using h0
  have H0:=Qq h0;have fR:=Qq (KZ.out.enter VW.out h0);have cP:=Qq (Qpi VW.out h0 KZ.out.tod);have sF:=KZ.out.lowB yF.out wY.out _ fR.out.here;obtain⟨u,hu⟩:∃u,u=Dt todo:=⟨_,rfl⟩;rw [<-hu,rL.out]at sF;rw [<-hu]at fR;have I1:=Qq hu;have sY:IntKind.u64.wrap ((todo:Int) - 1)=((todo - 1:Nat):Int):=by
   have:=VW.out;unfold Qp at this;rw [IntKind.wrap_u64];omega
  have xT:bits .and .u64 (todo:Int) ((todo - 1:Nat):Int)=((todo&&&(todo - 1):Nat):Int):=Xy VW.out (Nat.lt_of_le_of_lt (Nat.sub_le _ _) VW.out);obtain⟨td,BR⟩:∃z,z=todo&&&(todo - 1):=⟨_,rfl⟩;have OV:=Qq (show Qp td by rw [BR];exact Nat.lt_of_le_of_lt Nat.and_le_left VW.out);rw [<-BR]at xT fR cP;clear h0 hu BR;go_wp2_with fail;refine(Qn1 todo VW.out H0.out _ (HT.out.ext (X0.out.trans (zM.out.trans sV.out)))).mono ?_;rintro e w3 ⟨rfl,rfl⟩;rw [<-I1.out];obtain⟨e0,e1,e2,el⟩:=Zs (((zM.out.trans sV.out).block (Qn B0.out)).trans B0.out);obtain⟨wa,vJ⟩:∃v,v=w3:=⟨_,rfl⟩
  subst vJ;go_wp2_with fail;clear e0 e1 e2 el sY xT zQ;go_loopw [7,8,36] (fun vo vt vi wr=>∃o2 t2 i:Nat,vo=.int .u64 (o2:Int)/\vt=.int .u64 (t2:Int)/\vi=.int .i64 (i:Int)/\i<=nr/\Hid (Qvy md fr u i t2 o2/\Qp o2/\Qp t2/\Qg wa wr/\Qqg t2 o2 < Qqg todo out)) (fun _ _ vi _=>nr - (intOf vi).toNat)
  case atStart=>exact⟨out,td,0,rfl,rfl,rfl,Nat.zero_le _,Qq ⟨fR.out,iV.out,OV.out,Qz,cP.out⟩⟩
  case round =>
   clear fR cP OV;obtain⟨o2,t2,i,rfl,rfl,rfl,hi,zY⟩:=hrel;obtain⟨aD,YB,XR,hx,rD⟩:=zY.out;have AB:=Qq aD;have bD:=Qq YB;have VV:=Qq XR;have uH:=Qq hx;have tP:=Qq rD;clear zY aD YB XR hx rD;by_cases yQ:i < nr
   ·have wW:(i:Int) < (nr:Int):=by omega
    obtain⟨ad,ur,rfl,zV,yR,N6⟩:=HR.out i (by rw [<-fG.out];exact yQ);have kX:md.rel.getD i []∈md.rel:=by rw [Qk,List.getElem?_eq_getElem (by rw [<-fG.out];exact yQ)];exact List.getElem_mem _
    have wG:(md.rel.getD i []).length=N:=by rw [<-rL.out];exact nR.out _ kX
    obtain⟨Au,cu,rfl,_,_,HU⟩:=Vl N6;rw [wG]at yR HU;obtain⟨ud,rfl,tR,rZ⟩:=HU.out u sF;have ED:(u:Int) < (N:Int):=by omega
    have rT:=Qq (X0.out.trans (zM.out.trans (sV.out.trans uH.out)));have a0:=(rT.out.cell (p:=ad.add i) (Qj zV)).trans yR;have al:(ad.add i).block < wr.heap.size:=by rw [Qt];exact Qy zV rT.out.size
    have u0:=(rT.out.cell (p:=ud.add u) (Qj tR)).trans rZ;have ul:(ud.add u).block < wr.heap.size:=by rw [Qt];exact Qy tR rT.out.size
    have yY:=Qq (AB.out.step (by rw [<-fG.out];exact yQ));have OY:=Qq (Nat.lt_of_le_of_lt (Qa8 (todo:=t2) (out:=o2) (r:=(md.rel.getD i []).getD u 0)) tP.out);have yZ:=Qq (show Qp ((md.rel.getD i []).getD u 0)from Yg (zC.out.rel _ kX) u);obtain⟨x,hx⟩:∃x,x=(md.rel.getD i []).getD u 0:=⟨_,rfl⟩;rw [<-hx]at u0 yY OY yZ;have CK:=Vy yZ.out bD.out;have SO:=Qq (Ub (b:=o2) yZ.out);obtain⟨dx,NR⟩:∃z,z=Jk x o2:=⟨_,rfl⟩;rw [<-NR]at CK yY OY SO;have CJ:=Gq VV.out SO.out;have CI:=Gq bD.out yZ.out;have VX:=Qq (Qv8 VV.out SO.out);have PO:=Qq (Qv8 bD.out yZ.out)
    obtain⟨t3,N7⟩:∃z,z=t2|||dx:=⟨_,rfl⟩;obtain⟨o3,CM⟩:∃z,z=o2|||x:=⟨_,rfl⟩;rw [<-N7]at CJ yY OY VX;rw [<-CM]at CI yY OY PO;clear yR rZ hx wG N6 kX zV tR NR N7 CM;go_wp2_with fail;go_roundw
    case rel=>exact⟨o3,t3,i+1,rfl,rfl,by go_num,by omega,Qq ⟨yY.out,PO.out,VX.out,uH.out,OY.out⟩⟩
    case measure=>simp [intOf];omega
   obtain rfl:nr=i:=by omega
   have WP:=Qq (show Cy md fr t2 o2 by have:=AB.out;rw [fG.out]at this;exact this.leave);go_wp2_with fail;go_roundw
   case rel=>exact⟨o2,t2,rfl,rfl,Qq ⟨WP.out,bD.out,VV.out,sV.out.trans uH.out⟩⟩
   case measure =>
    show Qqg ((t2:Nat):Int).toNat ((o2:Nat):Int).toNat < Qqg ((todo:Nat):Int).toNat ((out:Nat):Int).toNat;simp only [Int.toNat_natCast];exact tP.out
theorem Qvz(vm:Value)(md:Md)(s:Nat)(w:World)(hs:Qp s)(hT:Kk w)(hm:Yz w vm md)(zO:md.ok)(hE:Tl md s=0):
 Calls Tryz.prog 36 #[vm,.int .u64 (s:Int)] w fun e w'=>∃vr vl,e=.returned (.tuple #[vr,vl,.int .i64 0])/\Qg w w'/\Kr (fun k=>k < w.heap.size) w' (fun W=>Yz W vr (Vc md (Yq s))/\Nts W vl (Yq s)):=by
 refine(Qnn vm md s w hs hT hm zO).mono ?_;rintro e w1 ⟨vr,vl,rfl,hx,hf⟩;unfold Qgb Qgf at hf;rw [if_pos hE,if_pos hE]at hf;exact⟨vr,vl,by rw [hE],hx,hf⟩
theorem Qig {md:Md} {gone k:Nat}(zU:Qa md=0)(hk:k < md.n.toNat)(zQ:gone≠k):Tl md (Jk (Zn md.n.toNat) (2^gone))=0:=by
 have hs:Jr (Jk (Zn md.n.toNat) (2^gone)) (Zn md.n.toNat)=true:=Yy.2 fun i hi=>by
  rw [Io,Bool.and_eq_true]at hi;rw [Kb];exact hi.1
 have h0:Jk (Zn md.n.toNat) (2^gone)≠0:=fun e=>by
  have h1:=Io md.n.toNat gone k;rw [e,Nat.zero_testBit,decide_eq_true hk,decide_eq_false zQ]at h1;cases h1
 unfold Tl;rw [if_neg (by rw [zU];simp),if_neg (by rw [hs];simp),if_neg h0]
theorem Kr.keep {B B':Nat} {w w':World} {P:World->Prop}(h:Kr (fun k=>k < B) w P)(hb:B'<=B)(hs:w.heap.size<=w'.heap.size)(hk:∀k,B<=k->k < w.heap.size->w'.heap[k]?=w.heap[k]?):Kr (fun k=>k < B') w' P :=
 h.next (X':=fun k=>k < B) ⟨hs,fun k h1 h2=>hk k (by omega) h2⟩ (fun _ _ h=>h)|>.next (Yk.of_ext Qz) (fun k _ h=>by omega)
theorem Qr4(vm:Value)(md:Md)(gone k:Nat)(w:World)(hT:Kk w)(hm:Yz w vm md)(zO:md.ok)(zU:Qa md=0)(hg:gone < md.n.toNat)(hk:k < md.n.toNat)(zQ:gone≠k):
 Calls Tryz.prog 82 #[vm,.int .i64 (gone:Int),.int .i64 (k:Int)] w fun e w'=>∃u,e=.returned (.tuple #[u,.int .i64 ((Fg k gone:Nat):Int)])/\Qg w w'/\Kr (fun k=>k < w.heap.size) w' (fun W=>Yz W u (Ni md gone)):=by
 have HM:=Qq hm;have zC:=Qq zO;have HT:=Qq hT;have HE:=Qq (Qig zU hk zQ);obtain⟨wH,yW,_⟩:=Zb zU;obtain⟨vv,vr,rfl,⟨Av,cv,rfl,_⟩,⟨Ar,cr,rfl,_⟩⟩:=hm;obtain⟨N,oV⟩:=Int.eq_ofNat_of_zero_le (show 0<=md.n by omega);have nN:md.n.toNat=N:=by rw [oV];exact Int.toNat_natCast N
 have xI:N<=64:=by omega
 have rL:=Qq nN;rw [oV]at HM⊢;have NM:gone < 64:=by omega
 have vK:(gone:Int) < 64:=by omega
 have hmg:min gone 64=gone:=by omega
 have N3:=Mo NM;have xT:=Vy (Vn xI) (Qq9 NM);obtain⟨s,hs⟩:∃s,s=Jk (Zn N) (2^gone):=⟨_,rfl⟩;have nP:=Qq (show Qp s by rw [hs];exact Ub (Vn xI));have hG:=Qq (show Ni md gone=Vc md (Yq s) by unfold Ni;rw [nN,<-hs]);rw [nN,<-hs]at HE;rw [<-hs]at xT;obtain⟨sh,bW⟩:∃z,z=Fg k gone:=⟨_,rfl⟩;have PA:=Qq bW;rw [<-bW];obtain⟨aw,YP⟩:∃z,z=Zn N:=⟨_,rfl⟩;obtain⟨tg,BQ⟩:∃z,z=2^gone:=⟨_,rfl⟩;rw [<-YP,<-BQ]at xT;rw [<-BQ]at N3;obtain⟨W0,zB⟩:∃W,W=(w.alloc (.cells #[.int .i64 (N:Int),.slice Av md.val.length cv,.slice Ar md.rel.length cr] 26)).alloc (.cells #[.int .i64 0,.slice none 0 0,.slice none 0 0] 26):=⟨_,rfl⟩
 have X0:=Qq (show Qg w W0 by rw [zB];exact(Qz.alloc _).alloc _);obtain⟨b,hb⟩:∃b,b=w.heap.size:=⟨_,rfl⟩;have B0:=Qq (show W0.heap[b]?=some (.cells #[.int .i64 (N:Int),.slice Av md.val.length cv,.slice Ar md.rel.length cr] 26 (0,0)) by rw [zB,hb];exact((Qz.alloc _).block (by simp)).trans (heap_alloc_new _ _));have B1:=Qq (show W0.heap[b+1]?=some (.cells #[.int .i64 0,.slice none 0 0,.slice none 0 0] 26 (0,0)) by
  have h1:=heap_alloc_new (w.alloc (.cells #[.int .i64 (N:Int),.slice Av md.val.length cv,.slice Ar md.rel.length cr] 26)) (.cells #[.int .i64 0,.slice none 0 0,.slice none 0 0] 26);rw [zB,hb]
  simpa using h1)
 have xY:=Qq (show w.heap.size<=b+1 by omega);have xQ:W0.heap.size<=W0.heap.size:=Nat.le_refl _;have bN:=Qq (show b+1 < W0.heap.size from Qn B1.out);obtain⟨e0,e1,e2,el⟩:=Zs B0.out;have rG:k < 64:=by omega
 clear hT zO zU hg hk zQ wH yW oV nN hs bW BQ;by_cases uG:N < 64
 case' pos =>
  have EZ:(N:Int) < 64:=by omega
  have YE:min N 64=N:=by omega
  have vJ:=Th uG;rw [show((2^N - 1:Nat):Int)=(aw:Int) by rw [YP];rfl]at vJ;clear uG YP
 case' neg =>
  have EZ:¬(N:Int) < 64:=by omega
  have OE:(18446744073709551615:Int)=(aw:Int):=by
   rw [YP,show N=64 by omega];rfl
  clear uG YP
 all_goals
  go_enter Tryz.func82,Tryz.ntmps82;go_upto_region 1 with(fail);rw [<-zB,<-hb];clear zB hb;go_upto_region 4 with(fail)
  try rw [OE]
  try clear OE
  refine wp_region_held_drew (S:=fun w'=>w'.cell? (⟨b,0,none⟩)=some (.int .i64 (N:Int))/\w'.cell? (⟨b,1,none⟩)=some (.slice Av md.val.length cv)/\w'.cell? (⟨b,2,none⟩)=some (.slice Ar md.rel.length cr)) (by kernel_rfl) ⟨xd el e0,xd el e1,xd el e2⟩ (fun zZ=> ?_);refine tk 0 zZ ?_;refine tk 1 zZ ?_;refine tk 2 zZ ?_;refine tk 3 zZ ?_;refine tk 4 zZ ?_;refine wpAnyH_ready (rs:= [5,10]) (by kernel_rfl) (by simp) ?_;refine AllReadyH.cons rfl (fun K hK=> ?_) (AllReadyH.cons rfl (fun K hK=> ?_) AllReadyH.nil);have m10:=True.intro
  rotate_left
  go_simp;refine hK.out _ _ ⟨xd el e0,xd el e1,xd el e2⟩ (fun zZ=> ?_);clear hK K;refine Qd ?_;refine wpAnyH_ready (rs:= [5]) (by kernel_rfl) (by simp) ?_;refine AllReadyH.cons rfl (fun K hK=> ?_) AllReadyH.nil
  all_goals
   go_simp;refine(Qvz _ md s _ nP.out (HT.out.ext (X0.out.trans xv)) (HM.out.ext (X0.out.trans xv)) zC.out HE.out).mono ?_;rintro e w6 ⟨vr,vl,rfl,yK,wX⟩;have hx:Qg W0 w6:=Qg.trans xv yK;have jZ:=Qq (wX.keep (B':=W0.heap.size) (Qg.size (a:=W0) xv) (Nat.le_refl _) (fun _ _ _=>rfl));have gY:=Qq wX;have iL:=Qq hx;obtain⟨⟨u0,u1,hu,⟨A1,c1,ZS,_⟩,⟨A2,c2,dC,_⟩⟩,⟨A3,c3,BJ,_⟩⟩:=wX.here;subst hu ZS dC BJ;obtain⟨l1,lC⟩:∃z,z=(Vc md (Yq s)).n:=⟨_,rfl⟩;obtain⟨l2,pM⟩:∃z,z=(Vc md (Yq s)).val.length:=⟨_,rfl⟩;obtain⟨l3,mN⟩:∃z,z=(Vc md (Yq s)).rel.length:=⟨_,rfl⟩;rw [<-lC,<-pM,<-mN]at jZ gY⊢
   first
   |have vW:Hid (w6.heap[W0.heap.size]?=some (.cells #[.int .i64 0,.slice none 0 0,.slice none 0 0] 26 (0,0))):=Qq ((yK.block (k:=W0.heap.size) (by simp)).trans (heap_alloc_new W0.drew (.cells #[.int .i64 0,.slice none 0 0,.slice none 0 0] 26)))
    obtain⟨⟨q0,q1,q2⟩,⟨f0,f1,f2⟩,ql⟩:=Zp vW.out
   |skip
   have hbz:=bN.out;have lX:=hx.size;clear wX lC pM mN yK;go_wp2_with fail;refine hK.out _ _ ⟨xd el e0,xd el e1,xd el e2⟩ (fun zZ=> ?_);clear hK K;refine Qd ?_;refine tk 6 zZ ?_;refine tk 7 zZ ?_;refine tk 8 zZ ?_;refine tk 9 zZ ?_
   try
    clear m10;refine wpAnyH_ready (rs:= [10]) (by kernel_rfl) (by simp) ?_;refine AllReadyH.cons rfl (fun K hK=> ?_) AllReadyH.nil;go_simp;refine hK.out _ _ ⟨xd el e0,xd el e1,xd el e2⟩ (fun zZ=> ?_);clear hK K;refine Qd ?_
   refine wpAnyH_ready (rs:= [11]) (by kernel_rfl) (by simp) ?_;refine AllReadyH.cons rfl (fun K hK=> ?_) AllReadyH.nil;go_simp;refine hK.out _ _ ⟨xd el e0,xd el e1,xd el e2⟩ (fun zZ=> ?_);clear hK K;refine Qd ?_;refine tk 12 zZ ?_;refine tk 13 zZ ?_;refine wpAnyH_done (by kernel_rfl) ?_ _
   first
   |obtain⟨xb,sX⟩:∃z,z=W0.heap.size:=⟨_,rfl⟩
    obtain⟨w8,lV⟩:∃z,z=(((w6.setCell ⟨W0.heap.size,0,none⟩ (.int .i64 l1)).setCell ⟨W0.heap.size,1,none⟩ (.slice A1 l2 c1)).setCell ⟨W0.heap.size,2,none⟩ (.slice A2 l3 c2)):=⟨_,rfl⟩;have vL:=vW.out;have AK:=Qq (show w8.heap[xb]?=some (.cells #[.int .i64 l1,.slice A1 l2 c1,.slice A2 l3 c2] 26 (0,0)) by rw [lV,sX];exact Vq vL _ _ _);have X8:=Qq (show Qg W0 w8 by rw [lV];exact Yl iL.out xQ _ _ _);have IV:=Qq (show Kr (fun k=>k < W0.heap.size) w8 (fun W=>Yz W (.agg #[.int .i64 l1,.slice A1 l2 c1,.slice A2 l3 c2]) (Vc md (Yq s))) by rw [lV];exact fun W hW=>(gY.out.keep (B':=W0.heap.size) (by simp) (by simp [World.setCell]) (fun k h1 h2=>Xn (by simp at h1;omega) _ _ _) W hW).1)
    rw [<-lV,<-sX];clear lV sX
   |obtain⟨xb,sX⟩:∃z,z=w6.heap.size:=⟨_,rfl⟩
    obtain⟨w8,lV⟩:∃z,z=w6.alloc (.cells #[.int .i64 l1,.slice A1 l2 c1,.slice A2 l3 c2] 26):=⟨_,rfl⟩;have AK:=Qq (show w8.heap[xb]?=some (.cells #[.int .i64 l1,.slice A1 l2 c1,.slice A2 l3 c2] 26 (0,0)) by rw [lV,sX];exact heap_alloc_new _ _);have X8:=Qq (show Qg W0 w8 by rw [lV];exact iL.out.alloc _);have IV:=Qq (show Kr (fun k=>k < W0.heap.size) w8 (fun W=>Yz W (.agg #[.int .i64 l1,.slice A1 l2 c1,.slice A2 l3 c2]) (Vc md (Yq s))) by rw [lV];exact fun W hW=>(gY.out.keep (B':=W0.heap.size) (by simp) (by simp) (fun k h1 h2=>(Qz.alloc _).block h2) W hW).1);rw [<-lV,<-sX];clear lV sX
   obtain⟨n0,n1,n2,nl⟩:=Zs AK.out;have vI:=Qq ((X8.out.block (Qn B1.out)).trans B1.out);obtain⟨⟨r0,r1,r2⟩,⟨g0,g1,g2⟩,rl⟩:=Zp vI.out;have QP:=Qq (show Kr (fun k=>k < w.heap.size) (((w8.setCell ⟨b+1,0,none⟩ (.int .i64 l1)).setCell ⟨b+1,1,none⟩ (.slice A1 l2 c1)).setCell ⟨b+1,2,none⟩ (.slice A2 l3 c2)) (fun W=>Yz W (.agg #[.int .i64 l1,.slice A1 l2 c1,.slice A2 l3 c2]) (Vc md (Yq s)))from IV.out.keep X0.out.size (by simp [World.setCell]) (fun k h1 h2=>Xn (by omega) _ _ _));clear xT N3 zZ gY IV hbz;by_cases RT:gone < k
   case' pos =>
    have CX:(gone:Int) < (k:Int):=by omega
    have wP:=Qq (show((sh:Nat):Int)=(k:Int) - 1 by rw [PA.out];unfold Fg;rw [if_pos RT];omega);clear RT
   case' neg =>
    have CX:¬(gone:Int) < (k:Int):=by omega
    have wP:=Qq (show sh=k by rw [PA.out];unfold Fg;rw [if_neg RT]);clear RT
   all_goals
    go_wp2_with fail
    (try simp only [Exit.inBlock,Exit.then])
    refine bodyPost_ret (Vw Tryz.results82 _ _ rfl (Jv (Vq vI.out _ _ _)) Tryz.underlying26 rfl (by kernel_rfl)) rfl ?_;exact⟨_,by rw [wP.out] <;> rfl,Yl (X0.out.trans X8.out) xY.out _ _ _,by rw [hG.out];exact QP.out⟩
theorem Zjc(vm v:Value)(md:Md)(f:List Nd)(k:Nat)(w:World)(hm:Yz w vm md)(zO:md.ok)(h:Jo w v f)(hc:Jq md f=0)(hk:k < md.n.toNat):
 Calls Tryz.prog 76 #[vm,.int .i64 (k:Int),v] w fun e w'=>e=.returned (.tuple #[.bool ((Rz md f).testBit k),.int .i64 0])/\Qg w w':=by
 have HM:=Qq hm;have HF:=Qq h;have zU:=(Vb hc).1;obtain⟨wH,yW,_⟩:=Zb zU;have HS:=Qq (fun w hm h=>Qc8 Qfh vm v md f w hm zO h);rw [hc,if_pos rfl]at HS;have HB:=Qq (Bn (Rz md f) k (Qy (Qz6 zU f) (Rv (by omega))));obtain⟨s,hs⟩:∃s,s=Rz md f:=⟨_,rfl⟩;obtain⟨n,hn⟩:∃n,n=md.n:=⟨_,rfl⟩;rw [<-hs]at HS HB⊢;obtain⟨vv,vr,rfl,⟨Av,cv,rfl,_⟩,⟨Ar,cr,rfl,_⟩⟩:=hm;rw [<-hn]at HM HS hk yW⊢;have yT:(k:Int) < n:=by omega
 have vG:(k:Int) < 64:=by omega
 have wI:min k 64=k:=by omega
 have aB:¬(k:Int) < 0:=by omega
 have wW:¬n<=(k:Int):=by omega
 clear h zO hc hk zU wH yW hs hn;go_enter Tryz.func76,Tryz.ntmps76;go_wp2_with fail;refine(HS.out _ (HM.out.ext ((Qg.refl w).alloc _)) (HF.out.ext ((Qg.refl w).alloc _))).mono ?_;rintro e w2 ⟨rfl,hx⟩;have HX:=Qq (((Qg.refl w).alloc _).trans hx);have c0:w2.cell? ⟨w.heap.size,0,none⟩=some (.int .i64 n):=(hx.cell (p:=⟨w.heap.size,0,none⟩) (by simp)).trans (by simp);have cl:w.heap.size < w2.heap.size:=Qy (by simp) hx.size;clear hx;go_wp2_with fail;go_ret2;exact⟨by rw [<-HB.out] <;> rfl,HX.out⟩
theorem Ox(lg:Int)(w:World):Calls Tryz.prog 75 #[.int .i64 lg] w fun e w'=>e=.returned (.bool (decide (0<=lg/\lg<=6)))/\w=w':=by
 obtain⟨lo,wB⟩:∃z,z=decide (0<=lg/\lg<=6):=⟨_,rfl⟩;have xY:=Qq wB;rw [<-wB];clear wB;by_cases h0:0<=lg
 ·by_cases h6:lg<=6
  ·have HD:=Qq (show lo=true by rw [xY.out];exact decide_eq_true ⟨h0,h6⟩);go_enter Tryz.func75,Tryz.ntmps75;go_wp2_with fail;go_ret;exact⟨by rw [HD.out] <;> rfl,rfl⟩
  have HD:=Qq (show lo=false by rw [xY.out];exact decide_eq_false fun h=>h6 h.2);go_enter Tryz.func75,Tryz.ntmps75;go_wp2_with fail;go_ret;exact⟨by rw [HD.out] <;> rfl,rfl⟩
 have HD:=Qq (show lo=false by rw [xY.out];exact decide_eq_false fun h=>h0 h.1);go_enter Tryz.func75,Tryz.ntmps75;go_wp2_with fail;go_ret;exact⟨by rw [HD.out] <;> rfl,rfl⟩
theorem Py(lg:Int)(v vm:Value)(f:List Nd)(md:Md)(wd:Int)(w:World)(hT:Kk w)(h:Jo w v f)(hm:Yz w vm md)(zO:md.ok):
 Calls Tryz.prog 27 #[.int .i64 lg,v,vm,.int .i64 wd] w fun e w'=>e=.returned (.int .i64 (Uh lg f md wd))/\Qg w w':=by
 have HT:=Qq hT;have HM:=Qq hm;have HF:=Qq h;have zC:=Qq zO;obtain⟨vv,vr,rfl,⟨Av,cv,rfl,_⟩,⟨Ar,cr,rfl,_⟩⟩:=hm;obtain⟨n,hn⟩:∃n,n=md.n:=⟨_,rfl⟩;have HN:=Qq hn;rw [<-hn]at HM⊢;obtain⟨r,hr⟩:∃r,r=Uh lg f md wd:=⟨_,rfl⟩;have HR:=Qq hr;rw [<-hr];obtain⟨er,tW⟩:∃z,z=Jq md f:=⟨_,rfl⟩;have wE:=Qq tW;obtain⟨W0,zB⟩:∃W,W=w.alloc (.cells #[.int .i64 n,.slice Av md.val.length cv,.slice Ar md.rel.length cr] 26):=⟨_,rfl⟩;have X0:=Qq (show Qg w W0 by rw [zB];exact Qz.alloc _);have B0:=Qq (show W0.heap[w.heap.size]?=some (.cells #[.int .i64 n,.slice Av md.val.length cv,.slice Ar md.rel.length cr] 26 (0,0)) by rw [zB];exact heap_alloc_new _ _)
 obtain⟨b,hb⟩:∃b,b=w.heap.size:=⟨_,rfl⟩;rw [<-hb]at B0;clear hT h zO hn hr tW;obtain⟨lo,wB⟩:∃z,z=decide (0<=lg/\lg<=6):=⟨_,rfl⟩;have xY:=Qq wB;obtain⟨e0,e1,e2,el⟩:=Zs B0.out;go_enter Tryz.func27,Tryz.ntmps27;go_upto_region 1 with(fail);rw [<-zB,<-hb];clear zB hb;go_wp2_with fail;refine(Ox lg _).mono ?_;rintro e w1 ⟨rfl,rfl⟩;rw [<-wB];clear wB;cases lo
 ·have HZ:=Qq (show r=1 by
   have:=of_decide_eq_false xY.out.symm;rw [HR.out];unfold Uh;rw [if_pos (by omega)])
  go_wp2_with fail;go_ret;exact⟨by rw [HZ.out] <;> rfl,X0.out⟩
 have vB:=Qq (show r=if er≠0 then er else if wd < 0\/n<=wd then 2 else if Oa md lg=false then 12 else if(Rz md f).testBit wd.toNat=true then 0 else 11 by
  have:=of_decide_eq_true xY.out.symm;rw [HR.out];unfold Uh;rw [if_neg (by omega),<-wE.out,<-HN.out])
 clear HR xY;go_wp2_with fail;refine(Qfh _ _ md f _ (HM.out.ext X0.out) zC.out (HF.out.ext X0.out)).mono ?_;rintro e w2 ⟨u,rfl,hx,hu⟩;rw [<-wE.out];have X2:=Qq (X0.out.trans hx);obtain⟨e0,e1,e2,el⟩:=Zs ((hx.block (Qn B0.out)).trans B0.out);have zS:=Qq hx;clear hx hu;by_cases hz:er=0
 case neg =>
  have HZ:=Qq (show r=er by rw [vB.out,if_pos hz]);have zQ:(er !=0)=true:=by simpa using hz
  clear hz vB;go_wp2_with fail;go_ret;exact⟨by rw [HZ.out] <;> rfl,X2.out⟩
 subst hz;rw [if_neg (by simp)]at vB;by_cases hw:wd < 0\/n<=wd
 ·have HZ:=Qq (show r=2 by rw [vB.out,if_pos hw]);clear vB;by_cases ZQ:wd < 0
  ·clear hw;go_wp2_with fail;go_ret;exact⟨by rw [HZ.out] <;> rfl,X2.out⟩
  have sY:n<=wd:=hw.resolve_left ZQ;clear hw;go_wp2_with fail;go_ret;exact⟨by rw [HZ.out] <;> rfl,X2.out⟩
 rw [if_neg hw]at vB;have ZQ:¬wd < 0:=fun h=>hw (.inl h)
 have sY:¬n<=wd:=fun h=>hw (.inr h)
 clear hw;obtain⟨k,rfl⟩:=Int.eq_ofNat_of_zero_le (show 0<=wd by omega);rw [Int.toNat_natCast]at vB;have HK:=Qq (show k < md.n.toNat by have:=HN.out;omega);go_wp2_with fail;refine(Qie _ md lg _ ((HT.out.ext X2.out)) (HM.out.ext X2.out) zC.out).mono ?_;rintro e w3 ⟨rfl,hx⟩;have X3:=Qq (X2.out.trans hx);obtain⟨e0,e1,e2,el⟩:=Zs (((zS.out.trans hx).block (Qn B0.out)).trans B0.out);clear hx;obtain⟨g,hg⟩:∃g,g=Oa md lg:=⟨_,rfl⟩;rw [<-hg]at vB⊢;clear hg;cases g
 ·have HZ:=Qq (show r=12 by rw [vB.out,if_pos rfl]);go_wp2_with fail;go_ret;exact⟨by rw [HZ.out] <;> rfl,X3.out⟩
 rw [if_neg (by simp)]at vB;go_wp2_with fail;refine(Zjc _ _ md f k _ (HM.out.ext X3.out) zC.out (HF.out.ext X3.out) wE.out.symm HK.out).mono ?_;rintro e w4 ⟨rfl,hx⟩;have X4:=Qq (X3.out.trans hx);clear hx;obtain⟨t,ht⟩:∃t,t=(Rz md f).testBit k:=⟨_,rfl⟩;rw [<-ht]at vB⊢;clear ht;cases t
 ·have HZ:=Qq (show r=11 by rw [vB.out,if_neg (by simp)]);go_wp2_with fail;go_ret;exact⟨by rw [HZ.out] <;> rfl,X4.out⟩
 have HZ:=Qq (show r=0 by rw [vB.out,if_pos rfl]);go_wp2_with fail;go_ret;exact⟨by rw [HZ.out] <;> rfl,X4.out⟩
def ShC(lo b:Nat)(wr:World)(md:Md):Prop:=∃A c A' c',wr.heap[b]?=some (.cells #[.int .i64 md.n,.slice A md.val.length c,.slice A' md.rel.length c'] 26 (0,0))/\
 Kr (fun k=>k < lo) wr (fun W=>Yz W (.agg #[.int .i64 md.n,.slice A md.val.length c,.slice A' md.rel.length c']) md)
theorem ShC.ext {lo b:Nat} {w w':World} {md:Md}(h:ShC lo b w md)(he:Qg w w'):ShC lo b w' md:=by
 obtain⟨A,c,A',c',h1,h2⟩:=h;exact⟨A,c,A',c',(he.block (Qn h1)).trans h1,h2.next (Yk.of_ext he) (fun _ _ h=>h)⟩
theorem ShC.put {lo lo' b:Nat} {w:World} {md:Md} {u:Value} {a0 a1 a2:Value}(hu:Kr (fun k=>k < lo') w (fun W=>Yz W u md))(wB:lo<=lo')(hb:b < lo)(hc:w.heap[b]?=some (.cells #[a0,a1,a2] 26 (0,0))):
 ∃A c A' c',u=.agg #[.int .i64 md.n,.slice A md.val.length c,.slice A' md.rel.length c']/\ShC lo b (((w.setCell ⟨b,0,none⟩ (.int .i64 md.n)).setCell ⟨b,1,none⟩ (.slice A md.val.length c)).setCell ⟨b,2,none⟩ (.slice A' md.rel.length c')) md:=by
 obtain⟨vv,vr,rfl,⟨A,c,rfl,_⟩,⟨A',c',rfl,_⟩⟩:=hu.here;refine⟨A,c,A',c',rfl,A,c,A',c',Vq hc _ _ _,hu.keep wB (by simp [World.setCell]) (fun k h1 _=>Xn (by omega) _ _ _)⟩
def Qtb(lg:Int)(f:List Nd)(md:Md)(wd:Int)(md':Md)(k':Nat):Prop :=
 (Uh lg f md wd≠0/\md'=⟨0,[],[]⟩/\k'=0)\/(Uh lg f md wd=0/\∃k out:Nat,wd=(k:Int)/\Ck md (2^k) out/\Mj lg f (Vc md (Yq out)) (Gy out k) md' k')
theorem Zqj {k n:Nat}(hk:k < n):Jr (2^k) (Zn n)=true:=Yy.2 fun i hi=>by
 rw [Nat.testBit_two_pow,decide_eq_true_iff]at hi;rw [Kb,<-hi,decide_eq_true hk]
theorem Qq6(lg:Int)(v vm:Value)(f:List Nd)(md:Md)(wd:Int)(w:World)(hT:Kk w)(h:Jo w v f)(hm:Yz w vm md)(zO:md.ok):
 Calls Tryz.prog 29 #[.int .i64 lg,v,vm,.int .i64 wd] w fun e w'=>∃u md' k',e=.returned (.tuple #[u,.int .i64 ((k':Nat):Int),.int .i64 (Uh lg f md wd)])/\Qtb lg f md wd md' k'/\Qg w w'/\Kr (fun k=>k < w.heap.size) w' (fun W=>Yz W u md'):=by
 have HM:=Qq hm;have zC:=Qq zO;have HT:=Qq hT;have HF:=Qq h;obtain⟨vv,vr,rfl,⟨Av,cv,rfl,_⟩,⟨Ar,cr,rfl,_⟩⟩:=hm;obtain⟨Af,cf,rfl,_⟩:=Qc h;obtain⟨N,hN⟩:∃n,n=md.n:=⟨_,rfl⟩;have HN:=Qq hN;rw [<-hN]at HM⊢;obtain⟨lv,Q2⟩:∃n,n=md.val.length:=⟨_,rfl⟩;obtain⟨lr,jI⟩:∃n,n=md.rel.length:=⟨_,rfl⟩;rw [<-Q2,<-jI]at HM⊢;obtain⟨ec,DU⟩:∃z,z=Uh lg f md wd:=⟨_,rfl⟩;have LD:=Qq DU;rw [<-DU];obtain⟨W0,zB⟩:∃W,W=(w.alloc (.cells #[.int .i64 N,.slice Av lv cv,.slice Ar lr cr] 26)).alloc (.cells #[.int .i64 0,.slice none 0 0,.slice none 0 0] 26):=⟨_,rfl⟩;have X0:=Qq (show Qg w W0 by rw [zB];exact(Qz.alloc _).alloc _)
 obtain⟨b,hb⟩:∃b,b=w.heap.size:=⟨_,rfl⟩;have B0:=Qq (show W0.heap[b]?=some (.cells #[.int .i64 N,.slice Av lv cv,.slice Ar lr cr] 26 (0,0)) by rw [zB,hb];exact((Qz.alloc _).block (by simp)).trans (heap_alloc_new _ _));have B1:=Qq (show W0.heap[b+1]?=some (.cells #[.int .i64 0,.slice none 0 0,.slice none 0 0] 26 (0,0)) by
  have h1:=heap_alloc_new (w.alloc (.cells #[.int .i64 N,.slice Av lv cv,.slice Ar lr cr] 26)) (.cells #[.int .i64 0,.slice none 0 0,.slice none 0 0] 26);rw [zB,hb]
  simpa using h1)
 have xY:=Qq (show w.heap.size<=b by omega);clear hT h zO hN Q2 jI DU;obtain⟨e0,e1,e2,el⟩:=Zs B0.out;go_enter Tryz.func29,Tryz.ntmps29;go_wp2_with fail;rw [<-zB,<-hb];clear zB hb;go_step3;go_wp2_with fail;refine(Py lg _ _ f md wd _ (HT.out.ext X0.out) (HF.out.ext X0.out) (HM.out.ext X0.out) zC.out).mono ?_;rintro e w1 ⟨rfl,hx⟩;rw [<-LD.out];have zM:=Qq hx;have vI:=Qq ((hx.block (Qn B1.out)).trans B1.out);clear e0 e1 e2 el hx;by_cases hz:ec=0
 case neg =>
  have zQ:(ec !=0)=true:=by simpa using hz
  have HS:=Qq (show Qtb lg f md wd ⟨0,[],[]⟩ 0 from .inl ⟨by rw [<-LD.out];exact hz,rfl,rfl⟩);obtain⟨⟨r0,r1,r2⟩,⟨g0,g1,g2⟩,rl⟩:=Zp vI.out;clear hz;go_wp2_with fail
  (try simp only [Exit.noGoto_ret])
  refine bodyPost_ret (Yn Tryz.results29 _ _ rfl (Jv (Vq vI.out _ _ _)) Tryz.underlying26 rfl (by kernel_rfl)) rfl ?_;exact⟨_,_,0,rfl,HS.out,Yl (X0.out.trans zM.out) (Nat.le_succ_of_le xY.out) _ _ _,fun W _=>Bt _⟩
 subst hz;obtain⟨k,rfl,xK⟩:=Nf.1 LD.out.symm;have sW:=Qq xK;have yW:=(Zb xK.good.ck).2.1;have uS:=xK.lt;have vG:k < 64:=by omega
 have yT:(k:Int) < 64:=by omega
 have dV:min k 64=k:=by omega
 have pG:=Mo vG;have vJ:=Th vG;have GL:=Qq (Zqj uS);have aS:=Qq (Qq9 vG);have tV:=Qq (fun s:Nat=>Qiq (s:=s) (w:=k) (by omega));obtain⟨tw2,lW⟩:∃z,z=2^k:=⟨_,rfl⟩;rw [<-lW]at pG GL aS;have cL:=Qq lW;obtain⟨ak,qR⟩:∃z,z=2^k - 1:=⟨_,rfl⟩;rw [<-qR]at vJ tV;rw [pG]at vJ;have bQ:=Qq (show Qp ak by rw [qR,<-lW];exact Nat.lt_of_le_of_lt (Nat.sub_le _ _) aS.out);obtain⟨e0,e1,e2,el⟩:=Zs ((zM.out.block (Qn B0.out)).trans B0.out);clear xK yW uS lW qR;go_upto_region 4 with(fail);refine wp_region_held_drew (S:=fun w'=>w'.cell? (⟨b,0,none⟩)=some (.int .i64 N)/\w'.cell? (⟨b,1,none⟩)=some (.slice Av lv cv)/\w'.cell? (⟨b,2,none⟩)=some (.slice Ar lr cr)) (by kernel_rfl) ⟨xc el e0,xc el e1,xc el e2⟩ (fun zZ=> ?_)
 refine tk 0 zZ ?_;refine tk 1 zZ ?_;refine tk 2 zZ ?_;refine wpAnyH_ready (rs:= [3]) (by kernel_rfl) (by simp) ?_;refine AllReadyH.cons rfl (fun K hK=> ?_) AllReadyH.nil;go_simp;refine(Qby _ md tw2 _ (HT.out.ext (X0.out.trans (zM.out.trans xw))) (HM.out.ext (X0.out.trans (zM.out.trans xw))) zC.out sW.out.good.ck GL.out aS.out).mono ?_;rintro e w4 ⟨out,rfl,UL,YB,yK⟩;have hx:Qg w1 w4:=Qg.trans xw yK;have ZA:=Qq UL;have iV:=Qq YB;clear UL YB yK;go_wp2_with fail;refine hK.out _ _ ⟨xc el e0,xc el e1,xc el e2⟩ (fun zZ=> ?_);clear hK K;refine Qd ?_;refine tk 4 zZ ?_
 refine tk 5 zZ ?_;refine tk 6 zZ ?_;refine tk 7 zZ ?_;refine tk 8 zZ ?_;refine wpAnyH_done (by kernel_rfl) ?_ _;have yN:=Qq (show Qg w1 w4 from hx);clear e0 e1 e2 el zZ hx;have IM:=Qq (show Ck md (2^k) out from by rw [<-cL.out];exact ZA.out);have WI:=Qq (Ck.part IM.out sW.out);have rV:=Qq (show Tl md out=0 from by
  have h1:=WI.out.2.2;have h2:out≠0:=fun e=>by
   have:=IM.out.sub k (by rw [Nat.testBit_two_pow];simp);rw [e,Nat.zero_testBit]at this;cases this
  unfold Tl;rw [if_neg (by rw [sW.out.good.ck];simp),if_neg,if_neg h2];rw [show Jr out (Zn md.n.toNat)=true from Yy.2 fun i hi=>by rw [Kb,decide_eq_true (Kw h1 hi)]]
  simp)
 obtain⟨e0,e1,e2,el⟩:=Zs (((zM.out.trans yN.out).block (Qn B0.out)).trans B0.out);go_wp2_with fail;refine(Qvz _ md out _ iV.out (HT.out.ext (X0.out.trans (zM.out.trans yN.out))) (HM.out.ext (X0.out.trans (zM.out.trans yN.out))) zC.out rV.out).mono ?_;rintro e w5 ⟨vr,vl,rfl,hx,wX⟩;have yJ:=Qq (zM.out.trans (yN.out.trans hx));have G5:=X0.out.size;have G1:=zM.out.size;have F9:=yN.out.size;have pD:=Qq ((yJ.out.block (Qn B0.out)).trans B0.out);have RE:=Qq ((yJ.out.block (Qn B1.out)).trans B1.out);obtain⟨A3,c3,BJ,_⟩:=wX.here.2;have lB:=Qn B1.out
 have dN:=ShC.put (lo:=W0.heap.size) (b:=b) (md:=Vc md (Yq out)) (u:=vr) (fun W hW=>(wX W hW).1) (by omega) (by omega) pD.out;obtain⟨A1,c1,A2,c2,hu,bX⟩:=dN;subst hu BJ;obtain⟨md1,TX⟩:∃z,z=Vc md (Yq out):=⟨_,rfl⟩;have PT:=Qq TX;rw [<-TX]at bX⊢;have aV:=Qq bX;obtain⟨⟨q0,q1,q2⟩,⟨f0,f1,f2⟩,ql⟩:=Zp pD.out;obtain⟨l1,lC⟩:∃z,z=md1.n:=⟨_,rfl⟩;obtain⟨l2,pM⟩:∃z,z=md1.val.length:=⟨_,rfl⟩;obtain⟨l3,mN⟩:∃z,z=md1.rel.length:=⟨_,rfl⟩;rw [<-lC,<-pM,<-mN]at aV⊢;have qS:=Xy iV.out bQ.out;obtain⟨sk,gH⟩:∃z,z=out&&&ak:=⟨_,rfl⟩;rw [<-gH]at qS;have nQ:=Qq (show Gy sk 64=Gy out k by rw [gH];exact tV.out out)
 have OZ:=Qq (show Qp sk by rw [gH];exact Nat.lt_of_le_of_lt Nat.and_le_right bQ.out);have FH:=Qq (show Qg w (((w5.setCell ⟨b,0,none⟩ (.int .i64 l1)).setCell ⟨b,1,none⟩ (.slice A1 l2 c1)).setCell ⟨b,2,none⟩ (.slice A2 l3 c2))from Yl (X0.out.trans yJ.out) xY.out _ _ _);have ZB:=Qq (show(((w5.setCell ⟨b,0,none⟩ (.int .i64 l1)).setCell ⟨b,1,none⟩ (.slice A1 l2 c1)).setCell ⟨b,2,none⟩ (.slice A2 l3 c2)).heap[b+1]?=some (.cells #[.int .i64 0,.slice none 0 0,.slice none 0 0] 26 (0,0))from(Xn (by omega) _ _ _).trans RE.out);have SJ:=Qq lB;clear hx wX bX e0 e1 e2 el G5 G1 F9 lB TX gH lC pM mN
 go_wp2_with fail;refine(Qe2 sk OZ.out _).mono ?_;rintro e w6 ⟨rfl,rfl⟩;rw [nQ.out];clear q0 q1 q2 f0 f1 f2 ql qS vJ pG;obtain⟨w6,hH⟩:∃z,z=(((w5.setCell ⟨b,0,none⟩ (.int .i64 l1)).setCell ⟨b,1,none⟩ (.slice A1 l2 c1)).setCell ⟨b,2,none⟩ (.slice A2 l3 c2)):=⟨_,rfl⟩;rw [<-hH]at aV FH ZB⊢;have V9:=Qq hH;have fT:=Qq (show Ua lg f md1 (Gy out k) by rw [PT.out];exact WI.out.1);obtain⟨k1,yT⟩:∃z,z=Gy out k:=⟨_,rfl⟩;have iX:=Qq yT;rw [<-yT]at fT⊢;clear hH yT dV vG GL aS cL bQ nQ OZ rV;go_wp2_with fail;go_step3;go_wp2_with fail;obtain⟨lo,wB⟩:∃z,z=W0.heap.size:=⟨_,rfl⟩
 have WQ:=Qq (show b+1 < lo by rw [wB];exact SJ.out);have PU:=Qq (show lo<=w6.heap.size by rw [wB,V9.out];have:=X0.out.size;have:=yJ.out.size;simp [World.setCell];exact yJ.out.size);rw [<-wB]at aV;clear wB;go_loopw [3] (fun v3 wr=>∃kc:Nat,v3=.int .i64 (kc:Int)/\kc < 64/\Hid (lo<=wr.heap.size/\∃mdc,ShC lo b wr mdc/\Qg w wr/\Ua lg f mdc kc/\wr.heap[b+1]?=some (.cells #[.int .i64 0,.slice none 0 0,.slice none 0 0] 26 (0,0))/\∀md' k',Mj lg f mdc kc md' k'->Mj lg f md1 k1 md' k')) (fun _ wr=>(intOf ((wr.cell? ⟨b,0,none⟩).getD undef)).toNat)
 case atStart=>exact⟨k1,rfl,by have:=fT.out.lt;have:=(Zb fT.out.good.ck).2.1;omega,Qq ⟨PU.out,md1,aV.out,FH.out,fT.out,ZB.out,fun _ _ h=>h⟩⟩
 case round =>
  clear aV FH ZB SJ fT WI yN yJ pD RE B0 B1 zM vI ZA tV PU V9;obtain⟨kc,rfl,Q5,zY⟩:=hrel;obtain⟨Q1,mdc,bX,hx,xK,SC,bW⟩:=zY.out;have PU:=Qq Q1;have aV:=Qq bX;have HX:=Qq hx;have sW:=Qq xK;have ZB:=Qq SC;have PA:=Qq bW;obtain⟨A,c,A',c',KF,wX⟩:=bX;have ZC:=Qq KF;have jZ:=Qq wX;obtain⟨xV,EE,_⟩:=Zb xK.good.ck;obtain⟨n,hn⟩:=Int.eq_ofNat_of_zero_le (show 0<=mdc.n by omega);have bZ:mdc.n.toNat=n:=by rw [hn];exact Int.toNat_natCast n
  have rL:=Qq bZ;have yW:n<=64:=by omega
  have hkcn:kc < n:=by have:=xK.lt;omega
  rw [hn]at ZC jZ;obtain⟨m2,xO⟩:∃z,z=mdc.val.length:=⟨_,rfl⟩;obtain⟨m3,jH⟩:∃z,z=mdc.rel.length:=⟨_,rfl⟩;rw [<-xO,<-jH]at ZC jZ;clear zY Q1 hx xK SC bW KF wX xV EE hn bZ xO jH;obtain⟨e0,e1,e2,el⟩:=Zs ZC.out;obtain⟨wa,vJ⟩:∃v,v=wr:=⟨_,rfl⟩;subst vJ;go_wp2_with fail;clear e0 e1 e2 el;go_loopw [3,14] (fun v3 v14 wr=>v3=.int .i64 (kc:Int)/\∃z:Int,v14=.int .i64 z/\ -1<=z/\z < n/\Hid (Qg wa wr/\∀u:Nat,z < u->u < n->u≠kc->Uh lg f (Ni mdc u) (Fg kc u:Nat)≠0)) (fun _ v _=>(intOf v+1).toNat)
  case atStart=>exact⟨rfl,(n:Int) - 1,rfl,by omega,by omega,Qq ⟨Qz,fun u h1 h2=>by omega⟩⟩
  case round =>
   obtain⟨rfl,z,rfl,wZ,oA,zY⟩:=hrel;have uH:=Qq zY.out.1;have HJ:=Qq zY.out.2;clear zY;obtain⟨e0,e1,e2,el⟩:=Zs ((uH.out.block (Qn ZC.out)).trans ZC.out);by_cases hz:0<=z
   ·obtain⟨j,rfl⟩:=Int.eq_ofNat_of_zero_le hz;clear hz;by_cases jJ:j=kc
    ·have US:((j:Int)==(kc:Int))=true:=by rw [jJ];simp
     have QB:=Qq jJ;clear jJ;go_wp2_with fail;go_roundw
     case rel=>exact⟨by first|rfl|trivial,(j:Int) - 1,rfl,by omega,by omega,Qq ⟨uH.out,fun u h1 h2 h3=>by
      by_cases e:u=j
      ·exact absurd (e.trans QB.out) h3
      exact HJ.out u (by omega) h2 h3⟩⟩
     case measure=>simp [intOf] <;> omega
    have US:((j:Int)==(kc:Int))=false:=by rw [beq_eq_false_iff_ne];omega
    have QB:=Qq jJ;have KY:=Qq (show j < mdc.n.toNat by rw [rL.out];omega);clear jJ;go_wp2_with fail;refine(Qr4 _ mdc j kc _ (HT.out.ext (HX.out.trans uH.out)) (jZ.out _ (Yk.of_ext uH.out)) (Ow sW.out.good.ck) sW.out.good.ck KY.out sW.out.lt QB.out).mono ?_;rintro e w3 ⟨u,rfl,zF,RZ⟩;have gZ:=Qq RZ;obtain⟨dr,jP⟩:∃z,z=Ni mdc j:=⟨_,rfl⟩;have hG:=Qq jP;have JA:=Qq (show dr.n=(n:Int) - 1 by
     rw [jP];show((Yq (Jk (Zn mdc.n.toNat) (2^j))).length:Int)=_;have h1:=rL.out;rw [Qvs (by omega) KY.out,h1]
     omega)
    rw [<-jP]at gZ RZ;obtain⟨_,_,hu,⟨A1,c1,ZS,_⟩,⟨A2,c2,dC,_⟩⟩:=RZ.here;subst hu ZS dC;obtain⟨d1,rJ⟩:∃z,z=dr.val.length:=⟨_,rfl⟩;obtain⟨d2,rS⟩:∃z,z=dr.rel.length:=⟨_,rfl⟩;obtain⟨d0,mQ⟩:∃z,z=dr.n:=⟨_,rfl⟩;obtain⟨sw,BT⟩:∃z,z=Fg kc j:=⟨_,rfl⟩;have SP:=Qq mQ;have LE:=Qq rJ;have bM:=Qq rS;have nP:=Qq BT;rw [<-mQ,<-rJ,<-rS]at gZ⊢;rw [<-BT];have zD:=Qq (uH.out.trans zF);have qT:=Qq zF.size;clear RZ zF jP mQ rJ rS BT e0 e1 e2 el;obtain⟨w5,sT⟩:∃z,z=w3.alloc (.cells #[.int .i64 d0,.slice A1 d1 c1,.slice A2 d2 c2] 26):=⟨_,rfl⟩;have yJ:=Qq (show Qg w3 w5 by rw [sT];exact Qz.alloc _)
    have pD:=Qq (show w5.heap[w3.heap.size]?=some (.cells #[.int .i64 d0,.slice A1 d1 c1,.slice A2 d2 c2] 26 (0,0)) by rw [sT];exact heap_alloc_new _ _);go_upto_region 12 with(fail);rw [<-sT];obtain⟨xb,sX⟩:∃z,z=w3.heap.size:=⟨_,rfl⟩;rw [<-sX]at pD⊢;clear sT sX;obtain⟨e0,e1,e2,el⟩:=Zs pD.out;go_wp2_with fail;refine(Py lg _ _ f dr sw _ (HT.out.ext (HX.out.trans (zD.out.trans yJ.out))) (HF.out.ext (HX.out.trans (zD.out.trans yJ.out))) (gZ.out _ (Yk.of_ext yJ.out)) (by rw [hG.out];exact Ow (Qgh sW.out.good.ck (by rw [Qvs (by have:=rL.out;omega) KY.out];have:=rL.out;have:=QB.out;omega) (Qnv _)))).mono ?_
    rintro e w4 ⟨rfl,yE⟩;have yN:=Qq (zD.out.trans (yJ.out.trans yE));have fY:=Qq ((yE.block (Qn pD.out)).trans pD.out);have cV:=Qq (gZ.out.next (X':=fun k=>k < wr.heap.size) (Yk.of_ext (yJ.out.trans yE)) (fun _ _ h=>h));clear yE e0 e1 e2 el;obtain⟨c0,nM⟩:∃z,z=Uh lg f dr (sw:Int):=⟨_,rfl⟩;have fU:=Qq (show Uh lg f (Ni mdc j) (Fg kc j:Nat)=c0 by rw [nM,hG.out,nP.out]);rw [<-nM];clear nM;by_cases tK:c0=0
    ·subst tK;obtain⟨e0,e1,e2,el⟩:=Zs fY.out;have vW:=Qq ((yN.out.block (Qn ZC.out)).trans ZC.out);have fV:=Qq ((yN.out.block (Qn ZB.out)).trans ZB.out);obtain⟨⟨q0,q1,q2⟩,⟨f0,f1,f2⟩,ql⟩:=Zp vW.out;obtain⟨j2,iF,MB⟩:=Nf.1 fU.out;obtain rfl:j2=Fg kc j:=by omega
     have bG:=Qq MB;have ZM:lo<=wr.heap.size:=Qx PU.out uH.out.size;have dN:=ShC.put (lo:=lo) (b:=b) (md:=dr) (u:=.agg #[.int .i64 d0,.slice A1 d1 c1,.slice A2 d2 c2]) cV.out ZM (by have:=WQ.out;omega) vW.out;obtain⟨B1',k1',B2',k2',hu,bX⟩:=dN;rw [<-SP.out,<-LE.out,<-bM.out]at hu bX;injection hu with hu;obtain⟨rfl,rfl,rfl,rfl⟩:A1=B1'/\c1=k1'/\A2=B2'/\c2=k2':=by
      injection hu with hu;injection hu with _ hu;injection hu with h1 hu;injection hu with h2 _;injection h1 with a1 _ a2;injection h2 with a3 _ a4;exact⟨a1,a2,a3,a4⟩
     have GA:=Qq bX;have FW:=Qq (show lo<=w4.heap.size by have:=yN.out.size;have:=PU.out;omega);have G9:=Qq (show Qg w (((w4.setCell ⟨b,0,none⟩ (.int .i64 d0)).setCell ⟨b,1,none⟩ (.slice A1 d1 c1)).setCell ⟨b,2,none⟩ (.slice A2 d2 c2))from Yl (HX.out.trans yN.out) xY.out _ _ _);have bO:=Qq (show(((w4.setCell ⟨b,0,none⟩ (.int .i64 d0)).setCell ⟨b,1,none⟩ (.slice A1 d1 c1)).setCell ⟨b,2,none⟩ (.slice A2 d2 c2)).heap[b+1]?=some (.cells #[.int .i64 0,.slice none 0 0,.slice none 0 0] 26 (0,0))from(Xn (by omega) _ _ _).trans fV.out);clear iF MB bX hu ZM;have GN:=Qq (show Ua lg f dr sw by rw [hG.out,nP.out];exact bG.out)
     have oQ:=Qq (Zs (Vq vW.out (.int .i64 d0) (.slice A1 d1 c1) (.slice A2 d2 c2))).1;have vV:=Qq (Zs ZC.out).1;go_wp2_with fail;refine⟨⟨sw,rfl,?_,Qq ⟨by simpa [World.setCell]using FW.out,dr,GA.out,G9.out,GN.out,bO.out,fun md' k' h=>PA.out md' k' (.step KY.out QB.out fU.out (fun u h1 h2 h3=>HJ.out u (by omega) (by rw [<-rL.out];exact h2) h3) (by rw [<-hG.out,<-nP.out];exact h))⟩⟩,?_⟩
     ·rw [nP.out];unfold Fg
      split <;> omega
     rw [oQ.out,vV.out];show(d0:Int).toNat < ((n:Nat):Int).toNat;rw [SP.out,JA.out];omega
    have zQ:(c0==0)=false:=by rw [beq_eq_false_iff_ne];exact tK
    have M0:=Qq tK;clear tK;go_wp2_with fail;go_roundw
    case rel=>exact⟨by first|rfl|trivial,(j:Int) - 1,rfl,by omega,by omega,Qq ⟨yN.out,fun u h1 h2 h3=>by
     by_cases e:u=j
     ·rw [e,fU.out];exact M0.out
     exact HJ.out u (by omega) h2 h3⟩⟩
    case measure=>simp [intOf] <;> omega
   obtain rfl:z= -1:=by omega
   have fV:=Qq ((uH.out.block (Qn ZB.out)).trans ZB.out);obtain⟨⟨q0,q1,q2⟩,⟨f0,f1,f2⟩,ql⟩:=Zp fV.out;have GF:=Qq (show Qtb lg f md (k:Int) mdc kc from .inr ⟨LD.out.symm,k,out,rfl,IM.out,by
    rw [<-PT.out,<-iX.out];exact PA.out _ _ (.done fun u h1 h2=>HJ.out u (by omega) (by rw [<-rL.out];exact h1) h2)⟩)
   have LB:=Qq (jZ.out.next (X':=fun k=>k < lo) (Yk.of_ext uH.out) (fun _ _ h=>h));have GZ:=Qq (show w.heap.size<=lo by have:=xY.out;have:=WQ.out;omega);have vT:=Qq (show Kr (fun k=>k < w.heap.size) (((wr.setCell ⟨b+1,0,none⟩ (.int .i64 (n:Int))).setCell ⟨b+1,1,none⟩ (.slice A m2 c)).setCell ⟨b+1,2,none⟩ (.slice A' m3 c')) (fun W=>Yz W (.agg #[.int .i64 (n:Int),.slice A m2 c,.slice A' m3 c']) mdc)from LB.out.keep GZ.out (by simp [World.setCell]) (fun k h1 _=>Xn (by have:=WQ.out;omega) _ _ _));clear hz;go_wp2_with fail
   (try simp only [Exit.noGoto_ret])
   refine bodyPost_ret (Yn Tryz.results29 _ _ rfl (Jv (Vq fV.out _ _ _)) Tryz.underlying26 rfl (by kernel_rfl)) rfl ?_;exact⟨_,mdc,kc,rfl,GF.out,Yl (HX.out.trans uH.out) (by have:=xY.out;omega) _ _ _,vT.out⟩
theorem Mw {k:Nat}(h:k<=12):IntKind.i64.wrap ((2:Int)^k)=((2^k:Nat):Int):=by
 have e:∀k:Fin 13,IntKind.i64.wrap ((2:Int)^k.val)=((2^k.val:Nat):Int):=by decide+kernel
 exact e ⟨k,by omega⟩
theorem Qd6(N A V K:Nat)(w:World)(KI:1<=N)(hN:N<=64)(hA:A<=4)(hV:V<=8)(aL:Zh N A V<=12)(hK:K < 2^Zh N A V):
 Calls Tryz.prog 34 #[.int .i64 (N:Int),.int .i64 (A:Int),.int .i64 (V:Int),.int .i64 (K:Int)] w fun e w'=>∃u,e=.returned (.tuple #[u,.int .i64 0])/\Qg w w'/\Kr (fun q=>q < w.heap.size) w' (fun W=>Yz W u (Uy N A V K)):=by
 obtain⟨W0,zB⟩:∃W,W=w.alloc (.cells #[.int .i64 0,.slice none 0 0,.slice none 0 0] 26):=⟨_,rfl⟩;have X0:=Qq (show Qg w W0 by rw [zB];exact Qz.alloc _);obtain⟨b,hb⟩:∃b,b=w.heap.size:=⟨_,rfl⟩;have B0:=Qq (show W0.heap[b]?=some (.cells #[.int .i64 0,.slice none 0 0,.slice none 0 0] 26 (0,0)) by rw [zB,hb];exact heap_alloc_new _ _);have xY:=Qq (show w.heap.size<=b by omega);have h1:¬(N:Int) < 1:=by omega
 have h2:¬(64:Int) < (N:Int):=by omega
 have h3:¬(A:Int) < 0:=by omega
 have h4:¬(4:Int) < (A:Int):=by omega
 have h5:¬(V:Int) < 0:=by omega
 have h6:¬(8:Int) < (V:Int):=by omega
 have gV:=Qq (Qqs N A V hN hA hV);have iW:=Qq (fun W=>Qjx N A V K W KI hN hA hV aL hK);obtain⟨L,hL⟩:∃z,z=Zh N A V:=⟨_,rfl⟩;have HK:=Qq hK;rw [<-hL]at gV aL HK;clear hL hK;have hq:¬(12:Int) < (L:Int):=by omega
 have qL:min L 64=L:=by omega
 have uQ:2^L<=4096:=show 2^L<=2^12 from Nat.pow_le_pow_right (by decide) aL
 have wQ:wrap64 ((2:Int)^L)=((2^L:Nat):Int):=by
  rw [show(2:Int)^L=((2^L:Nat):Int) by simp];exact Sd (by omega)
 have yD:IntKind.i64.wrap ((2:Int)^L)=((2^L:Nat):Int):=Mw aL;obtain⟨P,hP⟩:∃z,z=2^L:=⟨_,rfl⟩;rw [<-hP]at wQ yD uQ HK;clear hP;have hK:=HK.out;have k1:¬(K:Int) < 0:=by omega
 have k2:¬(P:Int)<=K:=by omega
 go_enter Tryz.func34,Tryz.ntmps34;go_upto_region 1 with(fail);rw [<-zB,<-hb];clear zB hb;go_wp2_with fail;refine(gV.out _).mono ?_;rintro e w1 ⟨rfl,rfl⟩;go_wp2_with fail;refine(iW.out _).mono ?_;rintro e w2 ⟨u,rfl,hf,hx⟩;have HF:=Qq hf;have HX:=Qq hx;obtain⟨_,_,hu,⟨A1,c1,ZS,_⟩,⟨A2,c2,dC,_⟩⟩:=hf.here;subst hu ZS dC;obtain⟨d1,rJ⟩:∃z,z=(Uy N A V K).val.length:=⟨_,rfl⟩;obtain⟨d2,rS⟩:∃z,z=(Uy N A V K).rel.length:=⟨_,rfl⟩;obtain⟨d0,mQ⟩:∃z,z=(Uy N A V K).n:=⟨_,rfl⟩;rw [<-mQ,<-rJ,<-rS]at HF⊢;have rY:=Qq ((hx.block (Qn B0.out)).trans B0.out);obtain⟨⟨q0,q1,q2⟩,⟨f0,f1,f2⟩,ql⟩:=Zp rY.out
 have rA:=Qq (Qn B0.out)
 have vT:=Qq (show Kr (fun q=>q < w.heap.size) (((w2.setCell ⟨b,0,none⟩ (.int .i64 d0)).setCell ⟨b,1,none⟩ (.slice A1 d1 c1)).setCell ⟨b,2,none⟩ (.slice A2 d2 c2)) (fun W=>Yz W (.agg #[.int .i64 d0,.slice A1 d1 c1,.slice A2 d2 c2]) (Uy N A V K))from
  HF.out.keep X0.out.size (by simp [World.setCell]) (fun k h1 _=>Xn (by have:=rA.out;omega) _ _ _))
 clear hf hx mQ rJ rS;go_wp2_with fail
 (try simp only [Exit.inBlock,Exit.then])
 refine bodyPost_ret (Vw Tryz.results34 _ _ rfl (Jv (Vq rY.out _ _ _)) Tryz.underlying26 rfl (by kernel_rfl)) rfl ?_;exact⟨_,rfl,Yl (X0.out.trans HX.out) xY.out _ _ _,vT.out⟩
def Fw(f:List Nd):Nat:=Yj (Jd (Qf f))
def Fo(f:List Nd):Nat:=Yj (Je (Qf f))
def Dn(lg:Int)(f:List Nd)(n k:Nat):Prop:=(∀m j,1<=m->m < n->j < 2^Zh m (Fw f) (Fo f)->Uh lg f (Uy m (Fw f) (Fo f) j) 0≠0)/\∀j,j < k->Uh lg f (Uy n (Fw f) (Fo f) j) 0≠0
def Fr(lg:Int)(f:List Nd)(most:Int)(md:Md)(er:Int):Prop :=
 (er≠0/\md=⟨0,[],[]⟩/\(((lg < 0\/6 < lg)/\er=1)\/((0<=lg/\lg<=6)/\((check f≠0/\er=check f)\/(check f=0/\((Jr (Js f) 15=false/\er=10)\/(Jr (Js f) 15=true/\(((most < 1\/64 < most)/\er=2)\/
  ((1<=most/\most<=64)/\((12 < Zh most.toNat (Fw f) (Fo f)/\er=8)\/(Zh most.toNat (Fw f) (Fo f)<=12/\er=6/\Dn lg f (most.toNat+1) 0)))))))))))\/
 (er=0/\(0<=lg/\lg<=6)/\check f=0/\Jr (Js f) 15=true/\(1<=most/\most<=64)/\Zh most.toNat (Fw f) (Fo f)<=12/\
  ∃n k,1<=n/\n<=most.toNat/\k < 2^Zh n (Fw f) (Fo f)/\md=Uy n (Fw f) (Fo f) k/\Uh lg f md 0=0/\Dn lg f n k)
theorem Qdo {n m a v:Nat}(h:n<=m):Zh n a v<=Zh m a v:=Nat.add_le_add (Nat.mul_le_mul_right _ h) (Nat.mul_le_mul_right _ (Nat.mul_le_mul h h))
theorem Dn.step {lg:Int} {f:List Nd} {n k:Nat}(h:Dn lg f n k)(hc:Uh lg f (Uy n (Fw f) (Fo f) k) 0≠0):Dn lg f n (k+1):=
 ⟨h.1,fun j hj=>by
  by_cases e:j=k
  ·rw [e];exact hc
  exact h.2 j (by omega)⟩
theorem Dn.turn {lg:Int} {f:List Nd} {n:Nat}(h:Dn lg f n (2^Zh n (Fw f) (Fo f))):Dn lg f (n+1) 0 :=
 ⟨fun m j h1 h2 hj=>by
  by_cases e:m=n
  ·subst e;exact h.2 j hj
  exact h.1 m j h1 (by omega) hj,fun j hj=>absurd hj (by omega)⟩
theorem Up {w w':World} {er:Int} {lg most:Int} {f:List Nd} {md:Md} {e:Ending}(he:e=.returned (.tuple #[.agg #[.int .i64 0,.slice none 0 0,.slice none 0 0],.int .i64 er]))(hm:md=⟨0,[],[]⟩)(hx:Qg w w')(h:Fr lg f most md er):
 ∃u md er,e=.returned (.tuple #[u,.int .i64 er])/\Fr lg f most md er/\Qg w w'/\Kr (fun q=>q < w.heap.size) w' (fun W=>Yz W u md):=
 ⟨_,md,er,he,h,hx,fun W _=>by rw [hm];exact Bt _⟩
theorem Qjj(lg:Int)(v:Value)(f:List Nd)(most:Int)(w:World)(hT:Kk w)(h:Jo w v f):
 Calls Tryz.prog 32 #[.int .i64 lg,v,.int .i64 most] w fun e w'=>∃u md er,e=.returned (.tuple #[u,.int .i64 er])/\Fr lg f most md er/\Qg w w'/\Kr (fun q=>q < w.heap.size) w' (fun W=>Yz W u md):=by
 have HT:=Qq hT;have HF:=Qq h;obtain⟨Af,cf,rfl,_⟩:=Qc h;obtain⟨ck,zU⟩:∃z,z=check f:=⟨_,rfl⟩;have yF:=Qq zU;obtain⟨W0,zB⟩:∃W,W=w.alloc (.cells #[.int .i64 0,.slice none 0 0,.slice none 0 0] 26):=⟨_,rfl⟩;have X0:=Qq (show Qg w W0 by rw [zB];exact Qz.alloc _);obtain⟨b,hb⟩:∃b,b=w.heap.size:=⟨_,rfl⟩;have B0:=Qq (show W0.heap[b]?=some (.cells #[.int .i64 0,.slice none 0 0,.slice none 0 0] 26 (0,0)) by rw [zB,hb];exact heap_alloc_new _ _);have xY:=Qq (show w.heap.size<=b by omega);obtain⟨lo,wB⟩:∃z,z=decide (0<=lg/\lg<=6):=⟨_,rfl⟩;have pB:=Qq wB;clear hT h zU;go_enter Tryz.func32,Tryz.ntmps32
 go_upto_region 1 with(fail);rw [<-zB,<-hb];clear zB hb;go_wp2_with fail;refine(Ox lg _).mono ?_;rintro e w1 ⟨rfl,rfl⟩;rw [<-wB];clear wB;obtain⟨⟨r0,r1,r2⟩,⟨g0,g1,g2⟩,rl⟩:=Zp B0.out;cases lo
 ·have HS:=Qq (show Fr lg f most ⟨0,[],[]⟩ 1 from .inl ⟨by decide,rfl,.inl ⟨by have:=of_decide_eq_false pB.out.symm;omega,rfl⟩⟩);go_wp2_with fail
  (try simp only [Exit.inBlock,Exit.then])
  refine bodyPost_ret (Vw Tryz.results32 _ _ rfl (Jv (Vq B0.out _ _ _)) Tryz.underlying26 rfl (by kernel_rfl)) rfl ?_;exact Up rfl rfl (Yl X0.out xY.out _ _ _) HS.out
 have rW:=Qq (of_decide_eq_true pB.out.symm);clear r0 r1 r2 g0 g1 g2 rl pB;go_wp2_with fail;refine(Vh _ f _ (HF.out.ext X0.out).1).mono ?_;rintro e w2 ⟨rfl,hx⟩;rw [<-yF.out];have S2:=Qq hx;have B2:=Qq ((hx.block (Qn B0.out)).trans B0.out);obtain⟨⟨r0,r1,r2⟩,⟨g0,g1,g2⟩,rl⟩:=Zp B2.out;clear hx;by_cases hz:ck=0
 case neg =>
  have zQ:(ck !=0)=true:=by simpa using hz
  have HS:=Qq (show Fr lg f most ⟨0,[],[]⟩ ck from .inl ⟨hz,rfl,.inr ⟨rW.out,.inl ⟨by rw [<-yF.out];exact hz,yF.out⟩⟩⟩);clear hz;go_wp2_with fail
  (try simp only [Exit.inBlock,Exit.then])
  refine bodyPost_ret (Vw Tryz.results32 _ _ rfl (Jv (Vq B2.out _ _ _)) Tryz.underlying26 rfl (by kernel_rfl)) rfl ?_;exact Up rfl rfl (Yl (X0.out.trans S2.out) xY.out _ _ _) HS.out
 subst hz;clear r0 r1 r2 g0 g1 g2 rl;go_wp2_with fail;refine(Rh _ f _ (HF.out.ext (X0.out.trans S2.out))).mono ?_;rintro e w3 ⟨rfl,hx⟩;have S3:=Qq (S2.out.trans hx);have B3:=Qq ((S3.out.block (Qn B0.out)).trans B0.out);obtain⟨⟨r0,r1,r2⟩,⟨g0,g1,g2⟩,rl⟩:=Zp B3.out;obtain⟨wQ,yD⟩:=Ty f;clear hx wQ;cases hsb:Jr (Js f) 15
 ·rw [hsb]at yD;have HS:=Qq (show Fr lg f most ⟨0,[],[]⟩ 10 from .inl ⟨by decide,rfl,.inr ⟨rW.out,.inr ⟨yF.out.symm,.inl ⟨hsb,rfl⟩⟩⟩⟩);clear hsb;go_wp2_with fail
  (try simp only [Exit.inBlock,Exit.then])
  refine bodyPost_ret (Vw Tryz.results32 _ _ rfl (Jv (Vq B3.out _ _ _)) Tryz.underlying26 rfl (by kernel_rfl)) rfl ?_;exact Up rfl rfl (Yl (X0.out.trans S3.out) xY.out _ _ _) HS.out
 rw [hsb]at yD;have lJ:=Qq hsb;clear hsb;by_cases jF:most < 1\/64 < most
 ·have HS:=Qq (show Fr lg f most ⟨0,[],[]⟩ 2 from .inl ⟨by decide,rfl,.inr ⟨rW.out,.inr ⟨yF.out.symm,.inr ⟨lJ.out,.inl ⟨jF,rfl⟩⟩⟩⟩⟩);have kU:most < 1\/(¬most < 1/\64 < most):=by omega
  clear jF;rcases kU with m1|⟨m1,m2⟩ <;>
  ·go_wp2_with fail
   (try simp only [Exit.inBlock,Exit.then])
   refine bodyPost_ret (Vw Tryz.results32 _ _ rfl (Jv (Vq B3.out _ _ _)) Tryz.underlying26 rfl (by kernel_rfl)) rfl ?_;exact Up rfl rfl (Yl (X0.out.trans S3.out) xY.out _ _ _) HS.out
 have m1:¬most < 1:=fun h=>jF (.inl h)
 have m2:¬64 < most:=fun h=>jF (.inr h)
 obtain⟨M,rfl⟩:=Int.eq_ofNat_of_zero_le (show 0<=most by omega);have D7:1<=M:=by omega
 have VJ:M<=64:=by omega
 have tP:=Qq (show 1<=((M:Nat):Int)/\((M:Nat):Int)<=64 by omega);have hh:=(Jj yF.out.symm).2.2.2;have vZ:=Dy (Qf f) 0 hh (by decide);have pR:=Rp (Qf f) 0 hh (by decide);obtain⟨am,lI⟩:∃x,x=Jd (Qf f):=⟨_,rfl⟩;obtain⟨fm,pP⟩:∃x,x=Je (Qf f):=⟨_,rfl⟩;rw [show(Qf f).foldl Se 0=am from lI.symm]at vZ;rw [show(Qf f).foldl So 0=fm from pP.symm]at pR;have bR:=Qq lI;have lQ:=Qq pP;have vJ:IntKind.u64.wrap (am:Int)=(am:Int):=by rw [IntKind.wrap_u64];omega
 have kR:IntKind.u64.wrap (fm:Int)=(fm:Int):=by rw [IntKind.wrap_u64];omega
 have sS:=Hl vZ;have sD:=Hl pR;have kF:=Qq (show am < 256 by omega);have nC:=Qq (show fm < 256 by omega);clear jF hh lI pP vZ pR r0 r1 r2 g0 g1 g2 rl;go_wp2_with fail;refine(Wi _ f _ (HF.out.ext (X0.out.trans S3.out)) yF.out.symm).mono ?_;rintro e w5 ⟨rfl,hx⟩;rw [<-bR.out];have S5:=Qq (S3.out.trans hx);clear hx;go_wp2_with fail;refine(Qyd am kF.out _).mono ?_;rintro e w6 ⟨rfl,rfl⟩;go_wp2_with fail;refine(Qqy _ f _ (HF.out.ext (X0.out.trans S5.out)) yF.out.symm).mono ?_;rintro e w7 ⟨rfl,hx⟩;rw [<-lQ.out];have S7:=Qq (S5.out.trans hx);clear hx;go_wp2_with fail
 refine(Qyd fm nC.out _).mono ?_;rintro e w8 ⟨rfl,rfl⟩;obtain⟨A,hA⟩:∃z,z=Yj am:=⟨_,rfl⟩;obtain⟨V,hV⟩:∃z,z=Yj fm:=⟨_,rfl⟩;have bS:=Qq (show A=Fw f by rw [hA,bR.out];rfl);have VR:=Qq (show V=Fo f by rw [hV,lQ.out];rfl);rw [<-hA]at sS⊢;rw [<-hV]at sD⊢;clear hA hV vJ kR;go_wp2_with fail;refine(Qqs M A V VJ sS sD _).mono ?_;rintro e w9 ⟨rfl,rfl⟩;have uL:=Qq (show Zh M A V=Zh ((M:Nat):Int).toNat (Fw f) (Fo f) by rw [Int.toNat_natCast,bS.out,VR.out]);have PW:=Qq (fun n (h:n<=M)=>Qdo (a:=A) (v:=V) h);obtain⟨L,hL⟩:∃z,z=Zh M A V:=⟨_,rfl⟩;rw [<-hL]at uL PW⊢
 clear hL;have B7:=Qq ((S7.out.block (Qn B0.out)).trans B0.out);by_cases h12:12 < L
 ·have hq:(12:Int) < (L:Int):=by omega
  have HS:=Qq (show Fr lg f ((M:Nat):Int) ⟨0,[],[]⟩ 8 from .inl ⟨by decide,rfl,.inr ⟨rW.out,.inr ⟨yF.out.symm,.inr ⟨lJ.out,.inr ⟨tP.out,.inl ⟨by rw [<-uL.out];exact h12,rfl⟩⟩⟩⟩⟩⟩);obtain⟨⟨r0,r1,r2⟩,⟨g0,g1,g2⟩,rl⟩:=Zp B7.out;clear h12;go_wp2_with fail
  (try simp only [Exit.inBlock,Exit.then])
  refine bodyPost_ret (Vw Tryz.results32 _ _ rfl (Jv (Vq B7.out _ _ _)) Tryz.underlying26 rfl (by kernel_rfl)) rfl ?_;exact Up rfl rfl (Yl (X0.out.trans S7.out) xY.out _ _ _) HS.out
 have hq:¬(12:Int) < (L:Int):=by omega
 have lM:=Qq (show L<=12 by omega);clear h12;go_wp2_with fail;have fB:=Qq (show((M:Nat):Int).toNat=M from Int.toNat_natCast M);rw [fB.out]at uL;go_loopw [11] (fun v wr=>∃n:Nat,v=.int .i64 (n:Int)/\1<=n/\n<=M+1/\Hid (Qg W0 wr/\Dn lg f n 0)) (fun v _=>M+1 - (intOf v).toNat)
 case atStart=>exact⟨1,rfl,Nat.le_refl _,by omega,Qq ⟨S7.out,fun m j h1 h2=>by omega,fun j hj=>absurd hj (by omega)⟩⟩
 case round =>
  obtain⟨n,rfl,wH,hnM,zY⟩:=hrel;have HX:=Qq zY.out.1;have HN:=Qq zY.out.2;clear zY;by_cases zI:n<=M
  ·have yT:(n:Int)<=(M:Int):=by omega
   have yW:n<=64:=by omega
   have pN:Zh n A V<=12:=Qx (PW.out n zI) lM.out;have iW:=Qq (fun k W h=>Qjx n A V k W wH yW sS sD pN h);have fN:=Qq (show Zh n A V=Zh n (Fw f) (Fo f) by rw [bS.out,VR.out]);have qL:min (Zh n A V) 64=Zh n A V:=by omega
   have uQ:2^Zh n A V<=4096:=show 2^Zh n A V<=2^12 from Nat.pow_le_pow_right (by decide) pN
   have yD:IntKind.i64.wrap ((2:Int)^Zh n A V)=((2^Zh n A V:Nat):Int):=Mw pN;have wQ:wrap64 ((2:Int)^Zh n A V)=((2^Zh n A V:Nat):Int):=by
    rw [show(2:Int)^Zh n A V=((2^Zh n A V:Nat):Int) by simp];exact Sd (Nat.lt_of_le_of_lt uQ (by decide))
   have wA:=Qq (Qqs n A V yW sS sD);obtain⟨ln,UC⟩:∃z,z=Zh n A V:=⟨_,rfl⟩;rw [<-UC]at iW fN qL uQ wQ yD wA pN;obtain⟨P,hP⟩:∃z,z=2^ln:=⟨_,rfl⟩;rw [<-hP]at iW uQ wQ yD;have HP:=Qq (show P=2^Zh n (Fw f) (Fo f) by rw [hP,fN.out]);clear UC hP;go_wp2_with fail;refine(wA.out _).mono ?_;rintro e w2 ⟨rfl,rfl⟩;go_wp2_with fail;go_loopw [60] (fun v wr=>∃k:Nat,v=.int .i64 (k:Int)/\k<=P/\Hid (Qg W0 wr/\Dn lg f n k)) (fun v _=>P - (intOf v).toNat)
   case atStart=>exact⟨0,rfl,Nat.zero_le _,Qq ⟨HX.out,HN.out⟩⟩
   case round =>
    clear HX HN;obtain⟨k,rfl,CY,zY⟩:=hrel;have HX:=Qq zY.out.1;have HN:=Qq zY.out.2;clear zY;by_cases xD:k < P
    ·have wW:(k:Int) < (P:Int):=Int.ofNat_lt.2 xD;go_wp2_with fail;refine(iW.out k _ xD).mono ?_;rintro e w3 ⟨u,rfl,hf,hx⟩;have gZ:=Qq hf;have zD:=Qq hx;obtain⟨_,_,hu,⟨A1,c1,ZS,_⟩,⟨A2,c2,dC,_⟩⟩:=hf.here;subst hu ZS dC;obtain⟨dr,jP⟩:∃z,z=Uy n A V k:=⟨_,rfl⟩;have hG:=Qq (show dr=Uy n (Fw f) (Fo f) k by rw [jP,bS.out,VR.out]);have XE:=Qq (show dr.ok by rw [jP];exact Ow (Qfy wH yW sS sD));rw [<-jP]at gZ⊢;obtain⟨d1,rJ⟩:∃z,z=dr.val.length:=⟨_,rfl⟩;obtain⟨d2,rS⟩:∃z,z=dr.rel.length:=⟨_,rfl⟩;obtain⟨d0,mQ⟩:∃z,z=dr.n:=⟨_,rfl⟩;rw [<-mQ,<-rJ,<-rS]at gZ⊢;obtain⟨w5,sT⟩:∃z,z=w3.alloc (.cells #[.int .i64 d0,.slice A1 d1 c1,.slice A2 d2 c2] 26):=⟨_,rfl⟩
     have yJ:=Qq (show Qg w3 w5 by rw [sT];exact Qz.alloc _);have pD:=Qq (show w5.heap[w3.heap.size]?=some (.cells #[.int .i64 d0,.slice A1 d1 c1,.slice A2 d2 c2] 26 (0,0)) by rw [sT];exact heap_alloc_new _ _);clear hf hx jP mQ rJ rS;go_upto_region 20 with(fail);rw [<-sT];obtain⟨xb,sX⟩:∃z,z=w3.heap.size:=⟨_,rfl⟩;rw [<-sX]at pD⊢;clear sT sX;obtain⟨e0,e1,e2,el⟩:=Zs pD.out;go_wp2_with fail;refine(Py lg _ _ f dr 0 _ (HT.out.ext (X0.out.trans (HX.out.trans (zD.out.trans yJ.out)))) (HF.out.ext (X0.out.trans (HX.out.trans (zD.out.trans yJ.out)))) (gZ.out _ (Yk.of_ext yJ.out)) XE.out).mono ?_
     rintro e w4 ⟨rfl,yE⟩;have yN:=Qq (HX.out.trans (zD.out.trans (yJ.out.trans yE)));have fY:=Qq ((yE.block (Qn pD.out)).trans pD.out);have cV:=Qq (gZ.out.next (X':=fun q=>q < wr.heap.size) (Yk.of_ext (yJ.out.trans yE)) (fun _ _ h=>h));clear yE e0 e1 e2 el;obtain⟨c0,nM⟩:∃z,z=Uh lg f dr 0:=⟨_,rfl⟩;have fU:=Qq nM;rw [<-nM];clear nM;by_cases tK:c0=0
     ·subst tK;obtain⟨e0,e1,e2,el⟩:=Zs fY.out;have vI:=Qq ((yN.out.block (Qn B0.out)).trans B0.out);obtain⟨⟨r0,r1,r2⟩,⟨g0,g1,g2⟩,rl⟩:=Zp vI.out;have HS:=Qq (show Fr lg f ((M:Nat):Int) dr 0 from .inr ⟨rfl,rW.out,yF.out.symm,lJ.out,tP.out,by rw [fB.out,<-uL.out];exact lM.out,n,k,wH,by rw [fB.out];exact zI,by rw [<-HP.out];exact xD,hG.out,fU.out.symm,HN.out⟩);have FN:=Qq (show b < wr.heap.size from Qy (Qn B0.out) HX.out.size);have FM:=Qq (show w.heap.size<=wr.heap.size from Qx X0.out.size HX.out.size)
      have vT:=Qq (show Kr (fun q=>q < w.heap.size) (((w4.setCell ⟨b,0,none⟩ (.int .i64 d0)).setCell ⟨b,1,none⟩ (.slice A1 d1 c1)).setCell ⟨b,2,none⟩ (.slice A2 d2 c2)) (fun W=>Yz W (.agg #[.int .i64 d0,.slice A1 d1 c1,.slice A2 d2 c2]) dr)from
       cV.out.keep FM.out (by simp [World.setCell]) (fun q h1 _=>Xn (by have:=FN.out;omega) _ _ _))
      go_wp2_with fail
      (try simp only [Exit.inBlock,Exit.then])
      refine bodyPost_ret (Vw Tryz.results32 _ _ rfl (Jv (Vq vI.out _ _ _)) Tryz.underlying26 rfl (by kernel_rfl)) rfl ?_;exact⟨_,dr,0,rfl,HS.out,Yl (X0.out.trans yN.out) xY.out _ _ _,vT.out⟩
     have zQ:(c0==0)=false:=by rw [beq_eq_false_iff_ne];exact tK
     have zE:=Qq (HN.out.step (by rw [<-hG.out,<-fU.out];exact tK));clear tK;go_wp2_with fail;go_roundw
     case rel=>exact⟨k+1,by go_num,xD,Qq ⟨yN.out,zE.out⟩⟩
     case measure=>simp [intOf] <;> omega
    obtain rfl:P=k:=Nat.le_antisymm (Nat.le_of_not_lt xD) CY;have rL:=Qq (show Dn lg f (n+1) 0 from by have:=HN.out;rw [HP.out]at this;exact this.turn);clear xD;go_wp2_with fail;go_roundw
    case rel=>exact⟨n+1,by go_num,by omega,by omega,Qq ⟨HX.out,rL.out⟩⟩
    case measure=>simp [intOf] <;> omega
  obtain rfl:n=M+1:=by omega
  have HS:=Qq (show Fr lg f ((M:Nat):Int) ⟨0,[],[]⟩ 6 from .inl ⟨by decide,rfl,.inr ⟨rW.out,.inr ⟨yF.out.symm,.inr ⟨lJ.out,.inr ⟨tP.out,.inr ⟨by rw [fB.out,<-uL.out];exact lM.out,rfl,by rw [fB.out];exact HN.out⟩⟩⟩⟩⟩⟩);have vI:=Qq ((HX.out.block (Qn B0.out)).trans B0.out);obtain⟨⟨r0,r1,r2⟩,⟨g0,g1,g2⟩,rl⟩:=Zp vI.out;have yT:¬(((M+1:Nat):Int)<=(M:Int)):=by omega
  go_wp2_with fail
  (try simp only [Exit.inBlock,Exit.then])
  refine bodyPost_ret (Vw Tryz.results32 _ _ rfl (Jv (Vq vI.out _ _ _)) Tryz.underlying26 rfl (by kernel_rfl)) rfl ?_;exact Up rfl rfl (Yl (X0.out.trans HX.out) xY.out _ _ _) HS.out
end Go.Proofs.YtkmclcmnoicagaaGreatDoor
