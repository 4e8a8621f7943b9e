/- The program's Generated. -/
import Derived.Test.YtkmclcmnoicagaaGreatDoorK30
import Derived.Test.YtkmclcmnoicagaaGreatDoorK31
namespace Go.Proofs.YtkmclcmnoicagaaGreatDoor
set_option maxRecDepth 100000
set_option maxHeartbeats 128000000
open Go.RowKit
theorem Mc.lowB {md:Md} {fr todo out:Nat}(h:Mc md fr todo out)(zT:Zq md=0)(yF:Js fr (Zs md.n.toNat)=true):∀i,out.testBit i=true->i < md.n.toNat :=
 h.least (fun i=>i < md.n.toNat) (fun i hi=>by
  have:=Yb.1 yF i hi;rw [Kf,decide_eq_true_iff]at this;exact this) (fun a _ u _ v hv=>(Dj zT a u v hv).2)
theorem Qfl(vm:Value)(md:Md)(fr:Nat)(w:World)(hT:Ky w)(hm:MdV w vm md)(zO:md.ok)(zT:Zq md=0)(yF:Js fr (Zs md.n.toNat)=true)(hw:Qp fr):
 Calls Tryz.prog 80 #[vm,.int .u64 (fr:Int)] w fun e w'=>∃out:Nat,e=.returned (.tuple #[.int .u64 (out:Int),.int .i64 0])/\Mh md fr out/\Qp out/\Ext w w':=by
 have HM:=Qq hm;have zD:=Qq zO;have xV:=Qq zT;have wS:=Qq yF;have HW:=Qq hw;have HT:=Qq hT;obtain⟨vR,yN,uC,_,uX,_,_⟩:=Zn zT;have nO:=Qq (show ∀r∈md.rel,r.length=md.n.toNat from fun r hr=>by have:=uX r hr;omega);obtain⟨vv,vr,rfl,⟨Av,cv,rfl,_⟩,hr⟩:=hm;obtain⟨Ar,cr,rfl,JR,ZY,HR⟩:=Ge hr;obtain⟨N,oT⟩:=Int.eq_ofNat_of_zero_le (show 0<=md.n by omega);have nL:md.n.toNat=N:=by rw [oT];exact Int.toNat_natCast N
 have xH:N<=64:=by omega
 have qV:=Qq nL;rw [oT]at HM⊢;have jL:Jv fr (Zs N)=0:=by
  have:=Ly (a:=fr) (b:=Zs N);rw [<-nL,yF]at this;rw [<-nL]
  simpa using this
 have xZ:=Vx hw (Vl xH);rw [jL]at xZ;obtain⟨nr,MC⟩:∃z,z=md.rel.length:=⟨_,rfl⟩;have fN:=Qq MC;have hnr4:nr<=4:=by rw [MC];exact uC
 obtain⟨W0,zE⟩:∃W,W=w.alloc (.cells #[.int .i64 (N:Int),.slice Av md.val.length cv,.slice Ar md.rel.length cr] 26):=⟨_,rfl⟩;have X0:=Qq (show Ext w W0 by rw [zE];exact Qz.alloc _);obtain⟨b,hb⟩:∃b,b=w.heap.size:=⟨_,rfl⟩;have B0:=Qq (show W0.heap[b]?=some (.cells #[.int .i64 (N:Int),.slice Av md.val.length cv,.slice Ar md.rel.length cr] 26 (0,0)) by rw [zE,hb];exact heap_alloc_new _ _);rw [<-MC]at B0;clear hT zO zT yF hw vR yN hr oT nL jL uX;go_enter Tryz.func80,Tryz.ntmps80;go_upto_region 1 with(fail);rw [<-zE,<-hb,<-MC];clear zE hb MC;obtain⟨e0,e1,e2,el⟩:=Zt B0.out;go_wp2_with fail
 refine(Xs _ md _ (by have:=HM.out.ext X0.out;rw [<-fN.out]at this;exact this) zD.out).mono ?_;rintro e w1 ⟨rfl,hx⟩;rw [xV.out];have zL:=Qq hx;obtain⟨e0,e1,e2,el⟩:=Zt ((hx.block (Qf B0.out)).trans B0.out);clear hx;go_wp2_with fail;refine(Ij N xH _).mono ?_;rintro e w2 ⟨rfl,rfl⟩;go_wp2_with fail;clear e0 e1 e2 el xZ;go_loopw [7,8] (fun vo vt wr=>∃out todo:Nat,vo=.int .u64 (out:Int)/\vt=.int .u64 (todo:Int)/\Hid (Mc md fr todo out/\Qp out/\Qp todo/\Ext w1 wr)) (fun vo vt _=>Ot (intOf vt).toNat (intOf vo).toNat)
 case atStart=>exact⟨fr,fr,rfl,rfl,Qq ⟨Mc.start _ _,HW.out,HW.out,Qz⟩⟩
 case round =>
  obtain⟨out,todo,rfl,rfl,zY⟩:=hrel;obtain⟨gQ,XV,XJ,hx⟩:=zY.out;have KY:=Qq gQ;have iW:=Qq XV;have VS:=Qq XJ;have sZ:=Qq hx;clear zY gQ XV XJ hx;by_cases h0:todo=0
  ·subst h0;have zQ:(((0:Nat):Int) !=0)=false:=by simp
   have HX:=Qq (X0.out.trans (zL.out.trans sZ.out));go_wp2_with fail;go_ret2;exact⟨out,rfl,KY.out.done,iW.out,HX.out⟩
  have zQ:((todo:Int) !=0)=true:=by simpa using h0
  have H0:=Qq h0;have bV:=Qq (KY.out.enter VS.out h0);have dB:=Qq (Qpj VS.out h0 KY.out.tod);have sF:=KY.out.lowB xV.out wS.out _ bV.out.here;obtain⟨u,hu⟩:∃u,u=Be todo:=⟨_,rfl⟩;rw [<-hu,qV.out]at sF;rw [<-hu]at bV;have J1:=Qq hu;have tT:IntKind.u64.wrap ((todo:Int) - 1)=((todo - 1:Nat):Int):=by
   have:=VS.out;unfold Qp at this;rw [IntKind.wrap_u64];omega
  have xZ:bits .and .u64 (todo:Int) ((todo - 1:Nat):Int)=((todo&&&(todo - 1):Nat):Int):=Xz VS.out (Nat.lt_of_le_of_lt (Nat.sub_le _ _) VS.out);obtain⟨td,CA⟩:∃z,z=todo&&&(todo - 1):=⟨_,rfl⟩;have OX:=Qq (show Qp td by rw [CA];exact Nat.lt_of_le_of_lt Nat.and_le_left VS.out);rw [<-CA]at xZ bV dB;clear h0 hu CA;go_wp2_with fail;refine(Qnv todo VS.out H0.out _ (HT.out.ext (X0.out.trans (zL.out.trans sZ.out)))).mono ?_;rintro e w3 ⟨rfl,rfl⟩;rw [<-J1.out];obtain⟨e0,e1,e2,el⟩:=Zt (((zL.out.trans sZ.out).block (Qf B0.out)).trans B0.out);obtain⟨wa,uU⟩:∃v,v=w3:=⟨_,rfl⟩
  subst uU;go_wp2_with fail;clear e0 e1 e2 el tT xZ zQ;go_loopw [7,8,36] (fun vo vt vi wr=>∃o2 t2 i:Nat,vo=.int .u64 (o2:Int)/\vt=.int .u64 (t2:Int)/\vi=.int .i64 (i:Int)/\i<=nr/\Hid (Qyn md fr u i t2 o2/\Qp o2/\Qp t2/\Ext wa wr/\Ot t2 o2 < Ot todo out)) (fun _ _ vi _=>nr - (intOf vi).toNat)
  case atStart=>exact⟨out,td,0,rfl,rfl,rfl,Nat.zero_le _,Qq ⟨bV.out,iW.out,OX.out,Qz,dB.out⟩⟩
  case round =>
   clear bV dB OX;obtain⟨o2,t2,i,rfl,rfl,rfl,hi,zY⟩:=hrel;obtain⟨aF,XV,XJ,hx,rY⟩:=zY.out;have AJ:=Qq aF;have bH:=Qq XV;have VR:=Qq XJ;have tI:=Qq hx;have sN:=Qq rY;clear zY aF XV XJ hx rY;by_cases yK:i < nr
   ·have wM:(i:Int) < (nr:Int):=by omega
    obtain⟨ad,ur,rfl,zU,yS,P7⟩:=HR.out i (by rw [<-fN.out];exact yK);have ZY:md.rel.getD i []∈md.rel:=by rw [Qk,List.getElem?_eq_getElem (by rw [<-fN.out];exact yK)];exact List.getElem_mem _
    have wC:(md.rel.getD i []).length=N:=by rw [<-qV.out];exact nO.out _ ZY
    obtain⟨Au,cu,rfl,_,_,HU⟩:=Vp P7;rw [wC]at yS HU;obtain⟨ud,rfl,tU,rX⟩:=HU.out u sF;have EH:(u:Int) < (N:Int):=by omega
    have rQ:=Qq (X0.out.trans (zL.out.trans (sZ.out.trans tI.out)));have a0:=(rQ.out.cell (p:=ad.add i) (Qj zU)).trans yS;have al:(ad.add i).block < wr.heap.size:=by rw [Qr];exact Qy zU rQ.out.size
    have u0:=(rQ.out.cell (p:=ud.add u) (Qj tU)).trans rX;have ul:(ud.add u).block < wr.heap.size:=by rw [Qr];exact Qy tU rQ.out.size
    have yX:=Qq (AJ.out.step (by rw [<-fN.out];exact yK));have PA:=Qq (Nat.lt_of_le_of_lt (Qan (todo:=t2) (out:=o2) (r:=(md.rel.getD i []).getD u 0)) sN.out);have yY:=Qq (show Qp ((md.rel.getD i []).getD u 0)from Yr (zD.out.rel _ ZY) u);obtain⟨x,hx⟩:∃x,x=(md.rel.getD i []).getD u 0:=⟨_,rfl⟩;rw [<-hx]at u0 yX PA yY;have CQ:=Vx yY.out bH.out;have SN:=Qq (Un (b:=o2) yY.out);obtain⟨dx,NT⟩:∃z,z=Jv x o2:=⟨_,rfl⟩;rw [<-NT]at CQ yX PA SN;have CP:=Xw VR.out SN.out;have CO:=Xw bH.out yY.out;have VT:=Qq (Qvr VR.out SN.out);have PO:=Qq (Qvr bH.out yY.out)
    obtain⟨t3,P8⟩:∃z,z=t2|||dx:=⟨_,rfl⟩;obtain⟨o3,CS⟩:∃z,z=o2|||x:=⟨_,rfl⟩;rw [<-P8]at CP yX PA VT;rw [<-CS]at CO yX PA PO;clear yS rX hx wC P7 ZY zU tU NT P8 CS;go_wp2_with fail;go_roundw
    case rel=>exact⟨o3,t3,i+1,rfl,rfl,by go_num,by omega,Qq ⟨yX.out,PO.out,VT.out,tI.out,PA.out⟩⟩
    case measure=>simp [intOf];omega
   obtain rfl:nr=i:=by omega
   have WK:=Qq (show Mc md fr t2 o2 by have:=AJ.out;rw [fN.out]at this;exact this.leave);go_wp2_with fail;go_roundw
   case rel=>exact⟨o2,t2,rfl,rfl,Qq ⟨WK.out,bH.out,VR.out,sZ.out.trans tI.out⟩⟩
   case measure =>
    show Ot ((t2:Nat):Int).toNat ((o2:Nat):Int).toNat < Ot ((todo:Nat):Int).toNat ((out:Nat):Int).toNat;simp only [Int.toNat_natCast];exact sN.out
theorem Sq(vm:Value)(md:Md)(s:Nat)(w:World)(hs:Qp s)(hT:Ky w)(hm:MdV w vm md)(zO:md.ok)(hE:Ss md s=0):
 Calls Tryz.prog 36 #[vm,.int .u64 (s:Int)] w fun e w'=>∃vr vl,e=.returned (.tuple #[vr,vl,.int .i64 0])/\Ext w w'/\Frz (fun k=>k < w.heap.size) w' (fun W=>MdV W vr (Ji md (Jy s))/\Nts W vl (Jy s)):=by
 refine(Qdi vm md s w hs hT hm zO).mono ?_;rintro e w1 ⟨vr,vl,rfl,hx,hf⟩;unfold Qx0 Qxi at hf;rw [if_pos hE,if_pos hE]at hf;exact⟨vr,vl,by rw [hE],hx,hf⟩
theorem Qoa {md:Md} {gone k:Nat}(zT:Zq md=0)(hk:k < md.n.toNat)(zQ:gone≠k):Ss md (Jv (Zs md.n.toNat) (2^gone))=0:=by
 have hs:Js (Jv (Zs md.n.toNat) (2^gone)) (Zs md.n.toNat)=true:=Yb.2 fun i hi=>by
  rw [Oy,Bool.and_eq_true]at hi;rw [Kf];exact hi.1
 have h0:Jv (Zs md.n.toNat) (2^gone)≠0:=fun e=>by
  have h1:=Oy md.n.toNat gone k;rw [e,Nat.zero_testBit,decide_eq_true hk,decide_eq_false zQ]at h1;cases h1
 unfold Ss;rw [if_neg (by rw [zT];simp),if_neg (by rw [hs];simp),if_neg h0]
theorem Frz.keep {B B':Nat} {w w':World} {P:World->Prop}(h:Frz (fun k=>k < B) w P)(hb:B'<=B)(hs:w.heap.size<=w'.heap.size)(hk:∀k,B<=k->k < w.heap.size->w'.heap[k]?=w.heap[k]?):Frz (fun k=>k < B') w' P :=
 h.next (X':=fun k=>k < B) ⟨hs,fun k h1 h2=>hk k (by omega) h2⟩ (fun _ _ h=>h)|>.next (Yp.of_ext Qz) (fun k _ h=>by omega)
theorem Qrf(vm:Value)(md:Md)(gone k:Nat)(w:World)(hT:Ky w)(hm:MdV w vm md)(zO:md.ok)(zT:Zq md=0)(hg:gone < md.n.toNat)(hk:k < md.n.toNat)(zQ:gone≠k):
 Calls Tryz.prog 82 #[vm,.int .i64 (gone:Int),.int .i64 (k:Int)] w fun e w'=>∃u,e=.returned (.tuple #[u,.int .i64 ((Xt k gone:Nat):Int)])/\Ext w w'/\Frz (fun k=>k < w.heap.size) w' (fun W=>MdV W u (Nj md gone)):=by
 have HM:=Qq hm;have zD:=Qq zO;have HT:=Qq hT;have HE:=Qq (Qoa zT hk zQ);obtain⟨vR,yN,_⟩:=Zn zT;obtain⟨vv,vr,rfl,⟨Av,cv,rfl,_⟩,⟨Ar,cr,rfl,_⟩⟩:=hm;obtain⟨N,oT⟩:=Int.eq_ofNat_of_zero_le (show 0<=md.n by omega);have nL:md.n.toNat=N:=by rw [oT];exact Int.toNat_natCast N
 have xH:N<=64:=by omega
 have qV:=Qq nL;rw [oT]at HM⊢;have NO:gone < 64:=by omega
 have vL:(gone:Int) < 64:=by omega
 have hmg:min gone 64=gone:=by omega
 have LK:=Lh NO;have xZ:=Vx (Vl xH) (Ip NO);obtain⟨s,hs⟩:∃s,s=Jv (Zs N) (2^gone):=⟨_,rfl⟩;have pM:=Qq (show Qp s by rw [hs];exact Un (Vl xH));have mE:=Qq (show Nj md gone=Ji md (Jy s) by unfold Nj;rw [nL,<-hs]);rw [nL,<-hs]at HE;rw [<-hs]at xZ;obtain⟨sh,XL⟩:∃z,z=Xt k gone:=⟨_,rfl⟩;have fK:=Qq XL;rw [<-XL];obtain⟨aw,YL⟩:∃z,z=Zs N:=⟨_,rfl⟩;obtain⟨tg,BY⟩:∃z,z=2^gone:=⟨_,rfl⟩;rw [<-YL,<-BY]at xZ;rw [<-BY]at LK;obtain⟨W0,zE⟩:∃W,W=(w.alloc (.cells #[.int .i64 (N:Int),.slice Av md.val.length cv,.slice Ar md.rel.length cr] 26)).alloc (.cells #[.int .i64 0,.slice none 0 0,.slice none 0 0] 26):=⟨_,rfl⟩
 have X0:=Qq (show Ext w W0 by rw [zE];exact(Qz.alloc _).alloc _);obtain⟨b,hb⟩:∃b,b=w.heap.size:=⟨_,rfl⟩;have B0:=Qq (show W0.heap[b]?=some (.cells #[.int .i64 (N:Int),.slice Av md.val.length cv,.slice Ar md.rel.length cr] 26 (0,0)) by rw [zE,hb];exact((Qz.alloc _).block (by simp)).trans (heap_alloc_new _ _));have B1:=Qq (show W0.heap[b+1]?=some (.cells #[.int .i64 0,.slice none 0 0,.slice none 0 0] 26 (0,0)) by
  have h1:=heap_alloc_new (w.alloc (.cells #[.int .i64 (N:Int),.slice Av md.val.length cv,.slice Ar md.rel.length cr] 26)) (.cells #[.int .i64 0,.slice none 0 0,.slice none 0 0] 26);rw [zE,hb]
  simpa using h1)
 have xT:=Qq (show w.heap.size<=b+1 by omega);have yW:W0.heap.size<=W0.heap.size:=Nat.le_refl _;have hH:=Qq (show b+1 < W0.heap.size from Qf B1.out);obtain⟨e0,e1,e2,el⟩:=Zt B0.out;have rI:k < 64:=by omega
 clear hT zO zT hg hk zQ vR yN oT nL hs XL BY;by_cases uP:N < 64
 ·have FD:(N:Int) < 64:=by omega
  have RQ:min N 64=N:=by omega
  have uU:=Sp uP;rw [show((2^N - 1:Nat):Int)=(aw:Int) by rw [YL];rfl]at uU;clear uP YL;go_enter Tryz.func82,Tryz.ntmps82;go_upto_region 1 with(fail);rw [<-zE,<-hb];clear zE hb;go_upto_region 4 with(fail);refine wp_region_held_drew (S:=fun w'=>w'.cell? (⟨b,0,none⟩)=some (.int .i64 (N:Int))/\w'.cell? (⟨b,1,none⟩)=some (.slice Av md.val.length cv)/\w'.cell? (⟨b,2,none⟩)=some (.slice Ar md.rel.length cr)) (by kernel_rfl) ⟨xd el e0,xd el e1,xd el e2⟩ (fun zZ=> ?_);refine tk 0 zZ ?_;refine tk 1 zZ ?_;refine tk 2 zZ ?_;refine tk 3 zZ ?_;refine tk 4 zZ ?_;refine wpAnyH_ready (rs:= [5,10]) (by kernel_rfl) (by simp) ?_
  refine AllReadyH.cons rfl (fun K hK=> ?_) (AllReadyH.cons rfl (fun K hK=> ?_) AllReadyH.nil)
  ·skip
   go_simp;refine(Sq _ md s _ pM.out (HT.out.ext (X0.out.trans xv)) (HM.out.ext (X0.out.trans xv)) zD.out HE.out).mono ?_;rintro e w6 ⟨vr,vl,rfl,yV,wY⟩;have hx:Ext W0 w6:=Ext.trans xv yV;have nR:=Qq (wY.keep (B':=W0.heap.size) (Ext.size (a:=W0) xv) (Nat.le_refl _) (fun _ _ _=>rfl));have sI:=Qq wY;have pV:=Qq hx;obtain⟨⟨u0,u1,hu,⟨A1,c1,kJ,_⟩,⟨A2,c2,mH,_⟩⟩,⟨A3,c3,ZT,_⟩⟩:=wY.here;subst hu kJ mH ZT;obtain⟨l1,rC⟩:∃z,z=(Ji md (Jy s)).n:=⟨_,rfl⟩;obtain⟨l2,sX⟩:∃z,z=(Ji md (Jy s)).val.length:=⟨_,rfl⟩;obtain⟨l3,rP⟩:∃z,z=(Ji md (Jy s)).rel.length:=⟨_,rfl⟩;rw [<-rC,<-sX,<-rP]at nR sI⊢
   first
   |have xD:Hid (w6.heap[W0.heap.size]?=some (.cells #[.int .i64 0,.slice none 0 0,.slice none 0 0] 26 (0,0))):=Qq ((yV.block (k:=W0.heap.size) (by simp)).trans (heap_alloc_new W0.drew (.cells #[.int .i64 0,.slice none 0 0,.slice none 0 0] 26)))
    obtain⟨⟨q0,q1,q2⟩,⟨f0,f1,f2⟩,ql⟩:=Zc xD.out
   |skip
   have UX:=hH.out;have pC:=hx.size;clear wY rC sX rP yV;go_wp2_with fail;refine hK.out _ _ ⟨xd el e0,xd el e1,xd el e2⟩ (fun zZ=> ?_);clear hK K;refine Qd ?_;refine tk 6 zZ ?_;refine tk 7 zZ ?_;refine tk 8 zZ ?_;refine tk 9 zZ ?_;refine wpAnyH_ready (rs:= [10]) (by kernel_rfl) (by simp) ?_;refine AllReadyH.cons rfl (fun K hK=> ?_) AllReadyH.nil;go_simp;refine hK.out _ _ ⟨xd el e0,xd el e1,xd el e2⟩ (fun zZ=> ?_);clear hK K;refine Qd ?_;refine wpAnyH_ready (rs:= [11]) (by kernel_rfl) (by simp) ?_;refine AllReadyH.cons rfl (fun K hK=> ?_) AllReadyH.nil;go_simp;refine hK.out _ _ ⟨xd el e0,xd el e1,xd el e2⟩ (fun zZ=> ?_)
   clear hK K;refine Qd ?_;refine tk 12 zZ ?_;refine tk 13 zZ ?_;refine wpAnyH_done (by kernel_rfl) ?_ _
   first
   |obtain⟨xb,wQ⟩:∃z,z=W0.heap.size:=⟨_,rfl⟩
    obtain⟨w8,wR⟩:∃z,z=(((w6.setCell ⟨W0.heap.size,0,none⟩ (.int .i64 l1)).setCell ⟨W0.heap.size,1,none⟩ (.slice A1 l2 c1)).setCell ⟨W0.heap.size,2,none⟩ (.slice A2 l3 c2)):=⟨_,rfl⟩;have wT:=xD.out;have gE:=Qq (show w8.heap[xb]?=some (.cells #[.int .i64 l1,.slice A1 l2 c1,.slice A2 l3 c2] 26 (0,0)) by rw [wR,wQ];exact Yx wT _ _ _);have X8:=Qq (show Ext W0 w8 by rw [wR];exact Yv pV.out yW _ _ _);have lJ:=Qq (show Frz (fun k=>k < W0.heap.size) w8 (fun W=>MdV W (.agg #[.int .i64 l1,.slice A1 l2 c1,.slice A2 l3 c2]) (Ji md (Jy s))) by rw [wR];exact fun W hW=>(sI.out.keep (B':=W0.heap.size) (by simp) (by simp [World.setCell]) (fun k h1 h2=>Kv (by simp at h1;omega) _ _ _) W hW).1)
    rw [<-wR,<-wQ];clear wR wQ
   |obtain⟨xb,wQ⟩:∃z,z=w6.heap.size:=⟨_,rfl⟩
    obtain⟨w8,wR⟩:∃z,z=w6.alloc (.cells #[.int .i64 l1,.slice A1 l2 c1,.slice A2 l3 c2] 26):=⟨_,rfl⟩;have gE:=Qq (show w8.heap[xb]?=some (.cells #[.int .i64 l1,.slice A1 l2 c1,.slice A2 l3 c2] 26 (0,0)) by rw [wR,wQ];exact heap_alloc_new _ _);have X8:=Qq (show Ext W0 w8 by rw [wR];exact pV.out.alloc _);have lJ:=Qq (show Frz (fun k=>k < W0.heap.size) w8 (fun W=>MdV W (.agg #[.int .i64 l1,.slice A1 l2 c1,.slice A2 l3 c2]) (Ji md (Jy s))) by rw [wR];exact fun W hW=>(sI.out.keep (B':=W0.heap.size) (by simp) (by simp) (fun k h1 h2=>(Qz.alloc _).block h2) W hW).1);rw [<-wR,<-wQ];clear wR wQ
   obtain⟨n0,n1,n2,nl⟩:=Zt gE.out;have vX:=Qq ((X8.out.block (Qf B1.out)).trans B1.out);obtain⟨⟨r0,r1,r2⟩,⟨g0,g1,g2⟩,rl⟩:=Zc vX.out;have lI:=Qq (show Frz (fun k=>k < w.heap.size) (((w8.setCell ⟨b+1,0,none⟩ (.int .i64 l1)).setCell ⟨b+1,1,none⟩ (.slice A1 l2 c1)).setCell ⟨b+1,2,none⟩ (.slice A2 l3 c2)) (fun W=>MdV W (.agg #[.int .i64 l1,.slice A1 l2 c1,.slice A2 l3 c2]) (Ji md (Jy s)))from lJ.out.keep X0.out.size (by simp [World.setCell]) (fun k h1 h2=>Kv (by omega) _ _ _));clear xZ LK zZ sI lJ UX;by_cases pJ:gone < k
   ·have kS:(gone:Int) < (k:Int):=by omega
    have xE:=Qq (show((sh:Nat):Int)=(k:Int) - 1 by rw [fK.out];unfold Xt;rw [if_pos pJ];omega);clear pJ;go_wp2_with fail
    (try simp only [Exit.inBlock,Exit.then])
    refine bodyPost_ret (Vk Tryz.results82 _ _ rfl (Ze (Yx vX.out _ _ _)) Tryz.underlying26 rfl (by kernel_rfl)) rfl ?_;exact⟨_,by rw [xE.out] <;> rfl,Yv (X0.out.trans X8.out) xT.out _ _ _,by rw [mE.out];exact lI.out⟩
   have kS:¬(gone:Int) < (k:Int):=by omega
   have xE:=Qq (show sh=k by rw [fK.out];unfold Xt;rw [if_neg pJ]);clear pJ;go_wp2_with fail
   (try simp only [Exit.inBlock,Exit.then])
   refine bodyPost_ret (Vk Tryz.results82 _ _ rfl (Ze (Yx vX.out _ _ _)) Tryz.underlying26 rfl (by kernel_rfl)) rfl ?_;exact⟨_,by rw [xE.out] <;> rfl,Yv (X0.out.trans X8.out) xT.out _ _ _,by rw [mE.out];exact lI.out⟩
  skip
  go_simp;refine hK.out _ _ ⟨xd el e0,xd el e1,xd el e2⟩ (fun zZ=> ?_);clear hK K;refine Qd ?_;refine wpAnyH_ready (rs:= [5]) (by kernel_rfl) (by simp) ?_;refine AllReadyH.cons rfl (fun K hK=> ?_) AllReadyH.nil;go_simp;refine(Sq _ md s _ pM.out (HT.out.ext (X0.out.trans xv)) (HM.out.ext (X0.out.trans xv)) zD.out HE.out).mono ?_;rintro e w6 ⟨vr,vl,rfl,yV,wY⟩;have hx:Ext W0 w6:=Ext.trans xv yV;have nR:=Qq (wY.keep (B':=W0.heap.size) (Ext.size (a:=W0) xv) (Nat.le_refl _) (fun _ _ _=>rfl));have sI:=Qq wY;have pV:=Qq hx;obtain⟨⟨u0,u1,hu,⟨A1,c1,kJ,_⟩,⟨A2,c2,mH,_⟩⟩,⟨A3,c3,ZT,_⟩⟩:=wY.here
  subst hu kJ mH ZT;obtain⟨l1,rC⟩:∃z,z=(Ji md (Jy s)).n:=⟨_,rfl⟩;obtain⟨l2,sX⟩:∃z,z=(Ji md (Jy s)).val.length:=⟨_,rfl⟩;obtain⟨l3,rP⟩:∃z,z=(Ji md (Jy s)).rel.length:=⟨_,rfl⟩;rw [<-rC,<-sX,<-rP]at nR sI⊢
  first
  |have xD:Hid (w6.heap[W0.heap.size]?=some (.cells #[.int .i64 0,.slice none 0 0,.slice none 0 0] 26 (0,0))):=Qq ((yV.block (k:=W0.heap.size) (by simp)).trans (heap_alloc_new W0.drew (.cells #[.int .i64 0,.slice none 0 0,.slice none 0 0] 26)))
   obtain⟨⟨q0,q1,q2⟩,⟨f0,f1,f2⟩,ql⟩:=Zc xD.out
  |skip
  have UX:=hH.out;have pC:=hx.size;clear wY rC sX rP yV;go_wp2_with fail;refine hK.out _ _ ⟨xd el e0,xd el e1,xd el e2⟩ (fun zZ=> ?_);clear hK K;refine Qd ?_;refine tk 6 zZ ?_;refine tk 7 zZ ?_;refine tk 8 zZ ?_;refine tk 9 zZ ?_;refine wpAnyH_ready (rs:= [11]) (by kernel_rfl) (by simp) ?_;refine AllReadyH.cons rfl (fun K hK=> ?_) AllReadyH.nil;go_simp;refine hK.out _ _ ⟨xd el e0,xd el e1,xd el e2⟩ (fun zZ=> ?_);clear hK K;refine Qd ?_;refine tk 12 zZ ?_;refine tk 13 zZ ?_;refine wpAnyH_done (by kernel_rfl) ?_ _
  first
  |obtain⟨xb,wQ⟩:∃z,z=W0.heap.size:=⟨_,rfl⟩
   obtain⟨w8,wR⟩:∃z,z=(((w6.setCell ⟨W0.heap.size,0,none⟩ (.int .i64 l1)).setCell ⟨W0.heap.size,1,none⟩ (.slice A1 l2 c1)).setCell ⟨W0.heap.size,2,none⟩ (.slice A2 l3 c2)):=⟨_,rfl⟩;have wT:=xD.out;have gE:=Qq (show w8.heap[xb]?=some (.cells #[.int .i64 l1,.slice A1 l2 c1,.slice A2 l3 c2] 26 (0,0)) by rw [wR,wQ];exact Yx wT _ _ _);have X8:=Qq (show Ext W0 w8 by rw [wR];exact Yv pV.out yW _ _ _);have lJ:=Qq (show Frz (fun k=>k < W0.heap.size) w8 (fun W=>MdV W (.agg #[.int .i64 l1,.slice A1 l2 c1,.slice A2 l3 c2]) (Ji md (Jy s))) by rw [wR];exact fun W hW=>(sI.out.keep (B':=W0.heap.size) (by simp) (by simp [World.setCell]) (fun k h1 h2=>Kv (by simp at h1;omega) _ _ _) W hW).1)
   rw [<-wR,<-wQ];clear wR wQ
  |obtain⟨xb,wQ⟩:∃z,z=w6.heap.size:=⟨_,rfl⟩
   obtain⟨w8,wR⟩:∃z,z=w6.alloc (.cells #[.int .i64 l1,.slice A1 l2 c1,.slice A2 l3 c2] 26):=⟨_,rfl⟩;have gE:=Qq (show w8.heap[xb]?=some (.cells #[.int .i64 l1,.slice A1 l2 c1,.slice A2 l3 c2] 26 (0,0)) by rw [wR,wQ];exact heap_alloc_new _ _);have X8:=Qq (show Ext W0 w8 by rw [wR];exact pV.out.alloc _);have lJ:=Qq (show Frz (fun k=>k < W0.heap.size) w8 (fun W=>MdV W (.agg #[.int .i64 l1,.slice A1 l2 c1,.slice A2 l3 c2]) (Ji md (Jy s))) by rw [wR];exact fun W hW=>(sI.out.keep (B':=W0.heap.size) (by simp) (by simp) (fun k h1 h2=>(Qz.alloc _).block h2) W hW).1);rw [<-wR,<-wQ];clear wR wQ
  obtain⟨n0,n1,n2,nl⟩:=Zt gE.out;have vX:=Qq ((X8.out.block (Qf B1.out)).trans B1.out);obtain⟨⟨r0,r1,r2⟩,⟨g0,g1,g2⟩,rl⟩:=Zc vX.out;have lI:=Qq (show Frz (fun k=>k < w.heap.size) (((w8.setCell ⟨b+1,0,none⟩ (.int .i64 l1)).setCell ⟨b+1,1,none⟩ (.slice A1 l2 c1)).setCell ⟨b+1,2,none⟩ (.slice A2 l3 c2)) (fun W=>MdV W (.agg #[.int .i64 l1,.slice A1 l2 c1,.slice A2 l3 c2]) (Ji md (Jy s)))from lJ.out.keep X0.out.size (by simp [World.setCell]) (fun k h1 h2=>Kv (by omega) _ _ _));clear xZ LK zZ sI lJ UX;by_cases pJ:gone < k
  ·have kS:(gone:Int) < (k:Int):=by omega
   have xE:=Qq (show((sh:Nat):Int)=(k:Int) - 1 by rw [fK.out];unfold Xt;rw [if_pos pJ];omega);clear pJ;go_wp2_with fail
   (try simp only [Exit.inBlock,Exit.then])
   refine bodyPost_ret (Vk Tryz.results82 _ _ rfl (Ze (Yx vX.out _ _ _)) Tryz.underlying26 rfl (by kernel_rfl)) rfl ?_;exact⟨_,by rw [xE.out] <;> rfl,Yv (X0.out.trans X8.out) xT.out _ _ _,by rw [mE.out];exact lI.out⟩
  have kS:¬(gone:Int) < (k:Int):=by omega
  have xE:=Qq (show sh=k by rw [fK.out];unfold Xt;rw [if_neg pJ]);clear pJ;go_wp2_with fail
  (try simp only [Exit.inBlock,Exit.then])
  refine bodyPost_ret (Vk Tryz.results82 _ _ rfl (Ze (Yx vX.out _ _ _)) Tryz.underlying26 rfl (by kernel_rfl)) rfl ?_;exact⟨_,by rw [xE.out] <;> rfl,Yv (X0.out.trans X8.out) xT.out _ _ _,by rw [mE.out];exact lI.out⟩
 have FD:¬(N:Int) < 64:=by omega
 have OF:(18446744073709551615:Int)=(aw:Int):=by
  rw [YL,show N=64 by omega];rfl
 clear uP YL;go_enter Tryz.func82,Tryz.ntmps82;go_upto_region 1 with(fail);rw [<-zE,<-hb];clear zE hb;go_upto_region 4 with(fail);rw [OF];clear OF;refine wp_region_held_drew (S:=fun w'=>w'.cell? (⟨b,0,none⟩)=some (.int .i64 (N:Int))/\w'.cell? (⟨b,1,none⟩)=some (.slice Av md.val.length cv)/\w'.cell? (⟨b,2,none⟩)=some (.slice Ar md.rel.length cr)) (by kernel_rfl) ⟨xd el e0,xd el e1,xd el e2⟩ (fun zZ=> ?_);refine tk 0 zZ ?_;refine tk 1 zZ ?_;refine tk 2 zZ ?_;refine tk 3 zZ ?_;refine tk 4 zZ ?_;refine wpAnyH_ready (rs:= [5,10]) (by kernel_rfl) (by simp) ?_;refine AllReadyH.cons rfl (fun K hK=> ?_) (AllReadyH.cons rfl (fun K hK=> ?_) AllReadyH.nil)
 ·skip
  go_simp;refine(Sq _ md s _ pM.out (HT.out.ext (X0.out.trans xv)) (HM.out.ext (X0.out.trans xv)) zD.out HE.out).mono ?_;rintro e w6 ⟨vr,vl,rfl,yV,wY⟩;have hx:Ext W0 w6:=Ext.trans xv yV;have nR:=Qq (wY.keep (B':=W0.heap.size) (Ext.size (a:=W0) xv) (Nat.le_refl _) (fun _ _ _=>rfl));have sI:=Qq wY;have pV:=Qq hx;obtain⟨⟨u0,u1,hu,⟨A1,c1,kJ,_⟩,⟨A2,c2,mH,_⟩⟩,⟨A3,c3,ZT,_⟩⟩:=wY.here;subst hu kJ mH ZT;obtain⟨l1,rC⟩:∃z,z=(Ji md (Jy s)).n:=⟨_,rfl⟩;obtain⟨l2,sX⟩:∃z,z=(Ji md (Jy s)).val.length:=⟨_,rfl⟩;obtain⟨l3,rP⟩:∃z,z=(Ji md (Jy s)).rel.length:=⟨_,rfl⟩;rw [<-rC,<-sX,<-rP]at nR sI⊢
  first
  |have xD:Hid (w6.heap[W0.heap.size]?=some (.cells #[.int .i64 0,.slice none 0 0,.slice none 0 0] 26 (0,0))):=Qq ((yV.block (k:=W0.heap.size) (by simp)).trans (heap_alloc_new W0.drew (.cells #[.int .i64 0,.slice none 0 0,.slice none 0 0] 26)))
   obtain⟨⟨q0,q1,q2⟩,⟨f0,f1,f2⟩,ql⟩:=Zc xD.out
  |skip
  have UX:=hH.out;have pC:=hx.size;clear wY rC sX rP yV;go_wp2_with fail;refine hK.out _ _ ⟨xd el e0,xd el e1,xd el e2⟩ (fun zZ=> ?_);clear hK K;refine Qd ?_;refine tk 6 zZ ?_;refine tk 7 zZ ?_;refine tk 8 zZ ?_;refine tk 9 zZ ?_;refine wpAnyH_ready (rs:= [10]) (by kernel_rfl) (by simp) ?_;refine AllReadyH.cons rfl (fun K hK=> ?_) AllReadyH.nil;go_simp;refine hK.out _ _ ⟨xd el e0,xd el e1,xd el e2⟩ (fun zZ=> ?_);clear hK K;refine Qd ?_;refine wpAnyH_ready (rs:= [11]) (by kernel_rfl) (by simp) ?_;refine AllReadyH.cons rfl (fun K hK=> ?_) AllReadyH.nil;go_simp;refine hK.out _ _ ⟨xd el e0,xd el e1,xd el e2⟩ (fun zZ=> ?_)
  clear hK K;refine Qd ?_;refine tk 12 zZ ?_;refine tk 13 zZ ?_;refine wpAnyH_done (by kernel_rfl) ?_ _
  first
  |obtain⟨xb,wQ⟩:∃z,z=W0.heap.size:=⟨_,rfl⟩
   obtain⟨w8,wR⟩:∃z,z=(((w6.setCell ⟨W0.heap.size,0,none⟩ (.int .i64 l1)).setCell ⟨W0.heap.size,1,none⟩ (.slice A1 l2 c1)).setCell ⟨W0.heap.size,2,none⟩ (.slice A2 l3 c2)):=⟨_,rfl⟩;have wT:=xD.out;have gE:=Qq (show w8.heap[xb]?=some (.cells #[.int .i64 l1,.slice A1 l2 c1,.slice A2 l3 c2] 26 (0,0)) by rw [wR,wQ];exact Yx wT _ _ _);have X8:=Qq (show Ext W0 w8 by rw [wR];exact Yv pV.out yW _ _ _);have lJ:=Qq (show Frz (fun k=>k < W0.heap.size) w8 (fun W=>MdV W (.agg #[.int .i64 l1,.slice A1 l2 c1,.slice A2 l3 c2]) (Ji md (Jy s))) by rw [wR];exact fun W hW=>(sI.out.keep (B':=W0.heap.size) (by simp) (by simp [World.setCell]) (fun k h1 h2=>Kv (by simp at h1;omega) _ _ _) W hW).1)
   rw [<-wR,<-wQ];clear wR wQ
  |obtain⟨xb,wQ⟩:∃z,z=w6.heap.size:=⟨_,rfl⟩
   obtain⟨w8,wR⟩:∃z,z=w6.alloc (.cells #[.int .i64 l1,.slice A1 l2 c1,.slice A2 l3 c2] 26):=⟨_,rfl⟩;have gE:=Qq (show w8.heap[xb]?=some (.cells #[.int .i64 l1,.slice A1 l2 c1,.slice A2 l3 c2] 26 (0,0)) by rw [wR,wQ];exact heap_alloc_new _ _);have X8:=Qq (show Ext W0 w8 by rw [wR];exact pV.out.alloc _);have lJ:=Qq (show Frz (fun k=>k < W0.heap.size) w8 (fun W=>MdV W (.agg #[.int .i64 l1,.slice A1 l2 c1,.slice A2 l3 c2]) (Ji md (Jy s))) by rw [wR];exact fun W hW=>(sI.out.keep (B':=W0.heap.size) (by simp) (by simp) (fun k h1 h2=>(Qz.alloc _).block h2) W hW).1);rw [<-wR,<-wQ];clear wR wQ
  obtain⟨n0,n1,n2,nl⟩:=Zt gE.out;have vX:=Qq ((X8.out.block (Qf B1.out)).trans B1.out);obtain⟨⟨r0,r1,r2⟩,⟨g0,g1,g2⟩,rl⟩:=Zc vX.out;have lI:=Qq (show Frz (fun k=>k < w.heap.size) (((w8.setCell ⟨b+1,0,none⟩ (.int .i64 l1)).setCell ⟨b+1,1,none⟩ (.slice A1 l2 c1)).setCell ⟨b+1,2,none⟩ (.slice A2 l3 c2)) (fun W=>MdV W (.agg #[.int .i64 l1,.slice A1 l2 c1,.slice A2 l3 c2]) (Ji md (Jy s)))from lJ.out.keep X0.out.size (by simp [World.setCell]) (fun k h1 h2=>Kv (by omega) _ _ _));clear xZ LK zZ sI lJ UX;by_cases pJ:gone < k
  ·have kS:(gone:Int) < (k:Int):=by omega
   have xE:=Qq (show((sh:Nat):Int)=(k:Int) - 1 by rw [fK.out];unfold Xt;rw [if_pos pJ];omega);clear pJ;go_wp2_with fail
   (try simp only [Exit.inBlock,Exit.then])
   refine bodyPost_ret (Vk Tryz.results82 _ _ rfl (Ze (Yx vX.out _ _ _)) Tryz.underlying26 rfl (by kernel_rfl)) rfl ?_;exact⟨_,by rw [xE.out] <;> rfl,Yv (X0.out.trans X8.out) xT.out _ _ _,by rw [mE.out];exact lI.out⟩
  have kS:¬(gone:Int) < (k:Int):=by omega
  have xE:=Qq (show sh=k by rw [fK.out];unfold Xt;rw [if_neg pJ]);clear pJ;go_wp2_with fail
  (try simp only [Exit.inBlock,Exit.then])
  refine bodyPost_ret (Vk Tryz.results82 _ _ rfl (Ze (Yx vX.out _ _ _)) Tryz.underlying26 rfl (by kernel_rfl)) rfl ?_;exact⟨_,by rw [xE.out] <;> rfl,Yv (X0.out.trans X8.out) xT.out _ _ _,by rw [mE.out];exact lI.out⟩
 skip
 go_simp;refine hK.out _ _ ⟨xd el e0,xd el e1,xd el e2⟩ (fun zZ=> ?_);clear hK K;refine Qd ?_;refine wpAnyH_ready (rs:= [5]) (by kernel_rfl) (by simp) ?_;refine AllReadyH.cons rfl (fun K hK=> ?_) AllReadyH.nil;go_simp;refine(Sq _ md s _ pM.out (HT.out.ext (X0.out.trans xv)) (HM.out.ext (X0.out.trans xv)) zD.out HE.out).mono ?_;rintro e w6 ⟨vr,vl,rfl,yV,wY⟩;have hx:Ext W0 w6:=Ext.trans xv yV;have nR:=Qq (wY.keep (B':=W0.heap.size) (Ext.size (a:=W0) xv) (Nat.le_refl _) (fun _ _ _=>rfl));have sI:=Qq wY;have pV:=Qq hx;obtain⟨⟨u0,u1,hu,⟨A1,c1,kJ,_⟩,⟨A2,c2,mH,_⟩⟩,⟨A3,c3,ZT,_⟩⟩:=wY.here
 subst hu kJ mH ZT;obtain⟨l1,rC⟩:∃z,z=(Ji md (Jy s)).n:=⟨_,rfl⟩;obtain⟨l2,sX⟩:∃z,z=(Ji md (Jy s)).val.length:=⟨_,rfl⟩;obtain⟨l3,rP⟩:∃z,z=(Ji md (Jy s)).rel.length:=⟨_,rfl⟩;rw [<-rC,<-sX,<-rP]at nR sI⊢
 first
 |have xD:Hid (w6.heap[W0.heap.size]?=some (.cells #[.int .i64 0,.slice none 0 0,.slice none 0 0] 26 (0,0))):=Qq ((yV.block (k:=W0.heap.size) (by simp)).trans (heap_alloc_new W0.drew (.cells #[.int .i64 0,.slice none 0 0,.slice none 0 0] 26)))
  obtain⟨⟨q0,q1,q2⟩,⟨f0,f1,f2⟩,ql⟩:=Zc xD.out
 |skip
 have UX:=hH.out;have pC:=hx.size;clear wY rC sX rP yV;go_wp2_with fail;refine hK.out _ _ ⟨xd el e0,xd el e1,xd el e2⟩ (fun zZ=> ?_);clear hK K;refine Qd ?_;refine tk 6 zZ ?_;refine tk 7 zZ ?_;refine tk 8 zZ ?_;refine tk 9 zZ ?_;refine wpAnyH_ready (rs:= [11]) (by kernel_rfl) (by simp) ?_;refine AllReadyH.cons rfl (fun K hK=> ?_) AllReadyH.nil;go_simp;refine hK.out _ _ ⟨xd el e0,xd el e1,xd el e2⟩ (fun zZ=> ?_);clear hK K;refine Qd ?_;refine tk 12 zZ ?_;refine tk 13 zZ ?_;refine wpAnyH_done (by kernel_rfl) ?_ _
 first
 |obtain⟨xb,wQ⟩:∃z,z=W0.heap.size:=⟨_,rfl⟩
  obtain⟨w8,wR⟩:∃z,z=(((w6.setCell ⟨W0.heap.size,0,none⟩ (.int .i64 l1)).setCell ⟨W0.heap.size,1,none⟩ (.slice A1 l2 c1)).setCell ⟨W0.heap.size,2,none⟩ (.slice A2 l3 c2)):=⟨_,rfl⟩;have wT:=xD.out;have gE:=Qq (show w8.heap[xb]?=some (.cells #[.int .i64 l1,.slice A1 l2 c1,.slice A2 l3 c2] 26 (0,0)) by rw [wR,wQ];exact Yx wT _ _ _);have X8:=Qq (show Ext W0 w8 by rw [wR];exact Yv pV.out yW _ _ _);have lJ:=Qq (show Frz (fun k=>k < W0.heap.size) w8 (fun W=>MdV W (.agg #[.int .i64 l1,.slice A1 l2 c1,.slice A2 l3 c2]) (Ji md (Jy s))) by rw [wR];exact fun W hW=>(sI.out.keep (B':=W0.heap.size) (by simp) (by simp [World.setCell]) (fun k h1 h2=>Kv (by simp at h1;omega) _ _ _) W hW).1)
  rw [<-wR,<-wQ];clear wR wQ
 |obtain⟨xb,wQ⟩:∃z,z=w6.heap.size:=⟨_,rfl⟩
  obtain⟨w8,wR⟩:∃z,z=w6.alloc (.cells #[.int .i64 l1,.slice A1 l2 c1,.slice A2 l3 c2] 26):=⟨_,rfl⟩;have gE:=Qq (show w8.heap[xb]?=some (.cells #[.int .i64 l1,.slice A1 l2 c1,.slice A2 l3 c2] 26 (0,0)) by rw [wR,wQ];exact heap_alloc_new _ _);have X8:=Qq (show Ext W0 w8 by rw [wR];exact pV.out.alloc _);have lJ:=Qq (show Frz (fun k=>k < W0.heap.size) w8 (fun W=>MdV W (.agg #[.int .i64 l1,.slice A1 l2 c1,.slice A2 l3 c2]) (Ji md (Jy s))) by rw [wR];exact fun W hW=>(sI.out.keep (B':=W0.heap.size) (by simp) (by simp) (fun k h1 h2=>(Qz.alloc _).block h2) W hW).1);rw [<-wR,<-wQ];clear wR wQ
 obtain⟨n0,n1,n2,nl⟩:=Zt gE.out;have vX:=Qq ((X8.out.block (Qf B1.out)).trans B1.out);obtain⟨⟨r0,r1,r2⟩,⟨g0,g1,g2⟩,rl⟩:=Zc vX.out;have lI:=Qq (show Frz (fun k=>k < w.heap.size) (((w8.setCell ⟨b+1,0,none⟩ (.int .i64 l1)).setCell ⟨b+1,1,none⟩ (.slice A1 l2 c1)).setCell ⟨b+1,2,none⟩ (.slice A2 l3 c2)) (fun W=>MdV W (.agg #[.int .i64 l1,.slice A1 l2 c1,.slice A2 l3 c2]) (Ji md (Jy s)))from lJ.out.keep X0.out.size (by simp [World.setCell]) (fun k h1 h2=>Kv (by omega) _ _ _));clear xZ LK zZ sI lJ UX;by_cases pJ:gone < k
 ·have kS:(gone:Int) < (k:Int):=by omega
  have xE:=Qq (show((sh:Nat):Int)=(k:Int) - 1 by rw [fK.out];unfold Xt;rw [if_pos pJ];omega);clear pJ;go_wp2_with fail
  (try simp only [Exit.inBlock,Exit.then])
  refine bodyPost_ret (Vk Tryz.results82 _ _ rfl (Ze (Yx vX.out _ _ _)) Tryz.underlying26 rfl (by kernel_rfl)) rfl ?_;exact⟨_,by rw [xE.out] <;> rfl,Yv (X0.out.trans X8.out) xT.out _ _ _,by rw [mE.out];exact lI.out⟩
 have kS:¬(gone:Int) < (k:Int):=by omega
 have xE:=Qq (show sh=k by rw [fK.out];unfold Xt;rw [if_neg pJ]);clear pJ;go_wp2_with fail
 (try simp only [Exit.inBlock,Exit.then])
 refine bodyPost_ret (Vk Tryz.results82 _ _ rfl (Ze (Yx vX.out _ _ _)) Tryz.underlying26 rfl (by kernel_rfl)) rfl ?_;exact⟨_,by rw [xE.out] <;> rfl,Yv (X0.out.trans X8.out) xT.out _ _ _,by rw [mE.out];exact lI.out⟩
theorem Zz8(vm v:Value)(md:Md)(f:List Nd)(k:Nat)(w:World)(hm:MdV w vm md)(zO:md.ok)(h:Fml w v f)(hc:Zi md f=0)(hk:k < md.n.toNat):
 Calls Tryz.prog 76 #[vm,.int .i64 (k:Int),v] w fun e w'=>e=.returned (.tuple #[.bool ((Nv md f).testBit k),.int .i64 0])/\Ext w w':=by
 have HM:=Qq hm;have HF:=Qq h;have zT:=(Vr hc).1;obtain⟨vR,yN,_⟩:=Zn zT;have HS:=Qq (fun w hm h=>Qcr Qg7 vm v md f w hm zO h);rw [hc,if_pos rfl]at HS;have HB:=Qq (Bz (Nv md f) k (Qy (Qqi zT f) (Ng (by omega))));obtain⟨s,hs⟩:∃s,s=Nv md f:=⟨_,rfl⟩;obtain⟨n,hn⟩:∃n,n=md.n:=⟨_,rfl⟩;rw [<-hs]at HS HB⊢;obtain⟨vv,vr,rfl,⟨Av,cv,rfl,_⟩,⟨Ar,cr,rfl,_⟩⟩:=hm;rw [<-hn]at HM HS hk yN⊢;have yP:(k:Int) < n:=by omega
 have vF:(k:Int) < 64:=by omega
 have wD:min k 64=k:=by omega
 have aD:¬(k:Int) < 0:=by omega
 have wM:¬n<=(k:Int):=by omega
 clear h zO hc hk zT vR yN hs hn;go_enter Tryz.func76,Tryz.ntmps76;go_wp2_with fail;refine(HS.out _ (HM.out.ext ((Ext.refl w).alloc _)) (HF.out.ext ((Ext.refl w).alloc _))).mono ?_;rintro e w2 ⟨rfl,hx⟩;have HX:=Qq (((Ext.refl w).alloc _).trans hx);have c0:w2.cell? ⟨w.heap.size,0,none⟩=some (.int .i64 n):=(hx.cell (p:=⟨w.heap.size,0,none⟩) (by simp)).trans (by simp);have cl:w.heap.size < w2.heap.size:=Qy (by simp) hx.size;clear hx;go_wp2_with fail;go_ret2;exact⟨by rw [<-HB.out] <;> rfl,HX.out⟩
theorem Ec(lg:Int)(w:World):Calls Tryz.prog 75 #[.int .i64 lg] w fun e w'=>e=.returned (.bool (decide (0<=lg/\lg<=6)))/\w=w':=by
 obtain⟨lo,vK⟩:∃z,z=decide (0<=lg/\lg<=6):=⟨_,rfl⟩;have xT:=Qq vK;rw [<-vK];clear vK;by_cases h0:0<=lg
 ·by_cases h6:lg<=6
  ·have HD:=Qq (show lo=true by rw [xT.out];exact decide_eq_true ⟨h0,h6⟩);go_enter Tryz.func75,Tryz.ntmps75;go_wp2_with fail;go_ret;exact⟨by rw [HD.out] <;> rfl,rfl⟩
  have HD:=Qq (show lo=false by rw [xT.out];exact decide_eq_false fun h=>h6 h.2);go_enter Tryz.func75,Tryz.ntmps75;go_wp2_with fail;go_ret;exact⟨by rw [HD.out] <;> rfl,rfl⟩
 have HD:=Qq (show lo=false by rw [xT.out];exact decide_eq_false fun h=>h0 h.1);go_enter Tryz.func75,Tryz.ntmps75;go_wp2_with fail;go_ret;exact⟨by rw [HD.out] <;> rfl,rfl⟩
theorem Ro(lg:Int)(v vm:Value)(f:List Nd)(md:Md)(wd:Int)(w:World)(hT:Ky w)(h:Fml w v f)(hm:MdV w vm md)(zO:md.ok):
 Calls Tryz.prog 27 #[.int .i64 lg,v,vm,.int .i64 wd] w fun e w'=>e=.returned (.int .i64 (cmN lg f md wd))/\Ext w w':=by
 have HT:=Qq hT;have HM:=Qq hm;have HF:=Qq h;have zD:=Qq zO;obtain⟨vv,vr,rfl,⟨Av,cv,rfl,_⟩,⟨Ar,cr,rfl,_⟩⟩:=hm;obtain⟨n,hn⟩:∃n,n=md.n:=⟨_,rfl⟩;have HN:=Qq hn;rw [<-hn]at HM⊢;obtain⟨r,hr⟩:∃r,r=cmN lg f md wd:=⟨_,rfl⟩;have HR:=Qq hr;rw [<-hr];obtain⟨er,vG⟩:∃z,z=Zi md f:=⟨_,rfl⟩;have wU:=Qq vG;obtain⟨W0,zE⟩:∃W,W=w.alloc (.cells #[.int .i64 n,.slice Av md.val.length cv,.slice Ar md.rel.length cr] 26):=⟨_,rfl⟩;have X0:=Qq (show Ext w W0 by rw [zE];exact Qz.alloc _);have B0:=Qq (show W0.heap[w.heap.size]?=some (.cells #[.int .i64 n,.slice Av md.val.length cv,.slice Ar md.rel.length cr] 26 (0,0)) by rw [zE];exact heap_alloc_new _ _)
 obtain⟨b,hb⟩:∃b,b=w.heap.size:=⟨_,rfl⟩;rw [<-hb]at B0;clear hT h zO hn hr vG;obtain⟨lo,vK⟩:∃z,z=decide (0<=lg/\lg<=6):=⟨_,rfl⟩;have xT:=Qq vK;obtain⟨e0,e1,e2,el⟩:=Zt B0.out;go_enter Tryz.func27,Tryz.ntmps27;go_upto_region 1 with(fail);rw [<-zE,<-hb];clear zE hb;go_wp2_with fail;refine(Ec lg _).mono ?_;rintro e w1 ⟨rfl,rfl⟩;rw [<-vK];clear vK;cases lo
 ·have HZ:=Qq (show r=1 by
   have:=of_decide_eq_false xT.out.symm;rw [HR.out];unfold cmN;rw [if_pos (by omega)])
  go_wp2_with fail;go_ret;exact⟨by rw [HZ.out] <;> rfl,X0.out⟩
 have sV:=Qq (show r=if er≠0 then er else if wd < 0\/n<=wd then 2 else if inG md lg=false then 12 else if(Nv md f).testBit wd.toNat=true then 0 else 11 by
  have:=of_decide_eq_true xT.out.symm;rw [HR.out];unfold cmN;rw [if_neg (by omega),<-wU.out,<-HN.out])
 clear HR xT;go_wp2_with fail;refine(Qg7 _ _ md f _ (HM.out.ext X0.out) zD.out (HF.out.ext X0.out)).mono ?_;rintro e w2 ⟨u,rfl,hx,hu⟩;rw [<-wU.out];have X2:=Qq (X0.out.trans hx);obtain⟨e0,e1,e2,el⟩:=Zt ((hx.block (Qf B0.out)).trans B0.out);have zR:=Qq hx;clear hx hu;by_cases hz:er=0
 case neg =>
  have HZ:=Qq (show r=er by rw [sV.out,if_pos hz]);have zQ:(er !=0)=true:=by simpa using hz
  clear hz sV;go_wp2_with fail;go_ret;exact⟨by rw [HZ.out] <;> rfl,X2.out⟩
 subst hz;rw [if_neg (by simp)]at sV;by_cases hw:wd < 0\/n<=wd
 ·have HZ:=Qq (show r=2 by rw [sV.out,if_pos hw]);clear sV;by_cases ZQ:wd < 0
  ·clear hw;go_wp2_with fail;go_ret;exact⟨by rw [HZ.out] <;> rfl,X2.out⟩
  have tT:n<=wd:=hw.resolve_left ZQ;clear hw;go_wp2_with fail;go_ret;exact⟨by rw [HZ.out] <;> rfl,X2.out⟩
 rw [if_neg hw]at sV;have ZQ:¬wd < 0:=fun h=>hw (.inl h)
 have tT:¬n<=wd:=fun h=>hw (.inr h)
 clear hw;obtain⟨k,rfl⟩:=Int.eq_ofNat_of_zero_le (show 0<=wd by omega);rw [Int.toNat_natCast]at sV;have HK:=Qq (show k < md.n.toNat by have:=HN.out;omega);go_wp2_with fail;refine(Qo9 _ md lg _ ((HT.out.ext X2.out)) (HM.out.ext X2.out) zD.out).mono ?_;rintro e w3 ⟨rfl,hx⟩;have X3:=Qq (X2.out.trans hx);obtain⟨e0,e1,e2,el⟩:=Zt (((zR.out.trans hx).block (Qf B0.out)).trans B0.out);clear hx;obtain⟨g,hg⟩:∃g,g=inG md lg:=⟨_,rfl⟩;rw [<-hg]at sV⊢;clear hg;cases g
 ·have HZ:=Qq (show r=12 by rw [sV.out,if_pos rfl]);go_wp2_with fail;go_ret;exact⟨by rw [HZ.out] <;> rfl,X3.out⟩
 rw [if_neg (by simp)]at sV;go_wp2_with fail;refine(Zz8 _ _ md f k _ (HM.out.ext X3.out) zD.out (HF.out.ext X3.out) wU.out.symm HK.out).mono ?_;rintro e w4 ⟨rfl,hx⟩;have X4:=Qq (X3.out.trans hx);clear hx;obtain⟨t,ht⟩:∃t,t=(Nv md f).testBit k:=⟨_,rfl⟩;rw [<-ht]at sV⊢;clear ht;cases t
 ·have HZ:=Qq (show r=11 by rw [sV.out,if_neg (by simp)]);go_wp2_with fail;go_ret;exact⟨by rw [HZ.out] <;> rfl,X4.out⟩
 have HZ:=Qq (show r=0 by rw [sV.out,if_pos rfl]);go_wp2_with fail;go_ret;exact⟨by rw [HZ.out] <;> rfl,X4.out⟩
def ShC(lo b:Nat)(wr:World)(md:Md):Prop:=∃A c A' c',wr.heap[b]?=some (.cells #[.int .i64 md.n,.slice A md.val.length c,.slice A' md.rel.length c'] 26 (0,0))/\
 Frz (fun k=>k < lo) wr (fun W=>MdV W (.agg #[.int .i64 md.n,.slice A md.val.length c,.slice A' md.rel.length c']) md)
theorem ShC.ext {lo b:Nat} {w w':World} {md:Md}(h:ShC lo b w md)(he:Ext w w'):ShC lo b w' md:=by
 obtain⟨A,c,A',c',h1,h2⟩:=h;exact⟨A,c,A',c',(he.block (Qf h1)).trans h1,h2.next (Yp.of_ext he) (fun _ _ h=>h)⟩
theorem ShC.put {lo lo' b:Nat} {w:World} {md:Md} {u:Value} {a0 a1 a2:Value}(hu:Frz (fun k=>k < lo') w (fun W=>MdV W u md))(vK:lo<=lo')(hb:b < lo)(hc:w.heap[b]?=some (.cells #[a0,a1,a2] 26 (0,0))):
 ∃A c A' c',u=.agg #[.int .i64 md.n,.slice A md.val.length c,.slice A' md.rel.length c']/\ShC lo b (((w.setCell ⟨b,0,none⟩ (.int .i64 md.n)).setCell ⟨b,1,none⟩ (.slice A md.val.length c)).setCell ⟨b,2,none⟩ (.slice A' md.rel.length c')) md:=by
 obtain⟨vv,vr,rfl,⟨A,c,rfl,_⟩,⟨A',c',rfl,_⟩⟩:=hu.here;refine⟨A,c,A',c',rfl,A,c,A',c',Yx hc _ _ _,hu.keep vK (by simp [World.setCell]) (fun k h1 _=>Kv (by omega) _ _ _)⟩
def Qse(lg:Int)(f:List Nd)(md:Md)(wd:Int)(md':Md)(k':Nat):Prop :=
 (cmN lg f md wd≠0/\md'=⟨0,[],[]⟩/\k'=0)\/(cmN lg f md wd=0/\∃k out:Nat,wd=(k:Int)/\Mh md (2^k) out/\Lq lg f (Ji md (Jy out)) (Gz out k) md' k')
theorem Qil {k n:Nat}(hk:k < n):Js (2^k) (Zs n)=true:=Yb.2 fun i hi=>by
 rw [Nat.testBit_two_pow,decide_eq_true_iff]at hi;rw [Kf,<-hi,decide_eq_true hk]
theorem Pc(lg:Int)(v vm:Value)(f:List Nd)(md:Md)(wd:Int)(w:World)(hT:Ky w)(h:Fml w v f)(hm:MdV w vm md)(zO:md.ok):
 Calls Tryz.prog 29 #[.int .i64 lg,v,vm,.int .i64 wd] w fun e w'=>∃u md' k',e=.returned (.tuple #[u,.int .i64 ((k':Nat):Int),.int .i64 (cmN lg f md wd)])/\Qse lg f md wd md' k'/\Ext w w'/\Frz (fun k=>k < w.heap.size) w' (fun W=>MdV W u md'):=by
 have HM:=Qq hm;have zD:=Qq zO;have HT:=Qq hT;have HF:=Qq h;obtain⟨vv,vr,rfl,⟨Av,cv,rfl,_⟩,⟨Ar,cr,rfl,_⟩⟩:=hm;obtain⟨Af,cf,rfl,_⟩:=Qh h;obtain⟨N,hN⟩:∃n,n=md.n:=⟨_,rfl⟩;have HN:=Qq hN;rw [<-hN]at HM⊢;obtain⟨lv,R5⟩:∃n,n=md.val.length:=⟨_,rfl⟩;obtain⟨lr,XZ⟩:∃n,n=md.rel.length:=⟨_,rfl⟩;rw [<-R5,<-XZ]at HM⊢;obtain⟨ec,DY⟩:∃z,z=cmN lg f md wd:=⟨_,rfl⟩;have LC:=Qq DY;rw [<-DY];obtain⟨W0,zE⟩:∃W,W=(w.alloc (.cells #[.int .i64 N,.slice Av lv cv,.slice Ar lr cr] 26)).alloc (.cells #[.int .i64 0,.slice none 0 0,.slice none 0 0] 26):=⟨_,rfl⟩;have X0:=Qq (show Ext w W0 by rw [zE];exact(Qz.alloc _).alloc _)
 obtain⟨b,hb⟩:∃b,b=w.heap.size:=⟨_,rfl⟩;have B0:=Qq (show W0.heap[b]?=some (.cells #[.int .i64 N,.slice Av lv cv,.slice Ar lr cr] 26 (0,0)) by rw [zE,hb];exact((Qz.alloc _).block (by simp)).trans (heap_alloc_new _ _));have B1:=Qq (show W0.heap[b+1]?=some (.cells #[.int .i64 0,.slice none 0 0,.slice none 0 0] 26 (0,0)) by
  have h1:=heap_alloc_new (w.alloc (.cells #[.int .i64 N,.slice Av lv cv,.slice Ar lr cr] 26)) (.cells #[.int .i64 0,.slice none 0 0,.slice none 0 0] 26);rw [zE,hb]
  simpa using h1)
 have xT:=Qq (show w.heap.size<=b by omega);clear hT h zO hN R5 XZ DY;obtain⟨e0,e1,e2,el⟩:=Zt B0.out;go_enter Tryz.func29,Tryz.ntmps29;go_wp2_with fail;rw [<-zE,<-hb];clear zE hb;go_step3;go_wp2_with fail;refine(Ro lg _ _ f md wd _ (HT.out.ext X0.out) (HF.out.ext X0.out) (HM.out.ext X0.out) zD.out).mono ?_;rintro e w1 ⟨rfl,hx⟩;rw [<-LC.out];have zL:=Qq hx;have vX:=Qq ((hx.block (Qf B1.out)).trans B1.out);clear e0 e1 e2 el hx;by_cases hz:ec=0
 case neg =>
  have zQ:(ec !=0)=true:=by simpa using hz
  have HS:=Qq (show Qse lg f md wd ⟨0,[],[]⟩ 0 from .inl ⟨by rw [<-LC.out];exact hz,rfl,rfl⟩);obtain⟨⟨r0,r1,r2⟩,⟨g0,g1,g2⟩,rl⟩:=Zc vX.out;clear hz;go_wp2_with fail
  (try simp only [Exit.noGoto_ret])
  refine bodyPost_ret (Yh Tryz.results29 _ _ rfl (Ze (Yx vX.out _ _ _)) Tryz.underlying26 rfl (by kernel_rfl)) rfl ?_;exact⟨_,_,0,rfl,HS.out,Yv (X0.out.trans zL.out) (Nat.le_succ_of_le xT.out) _ _ _,fun W _=>Gw _⟩
 subst hz;obtain⟨k,rfl,xI⟩:=Dm.1 LC.out.symm;have tS:=Qq xI;have yN:=(Zn xI.good.ck).2.1;have uQ:=xI.lt;have vF:k < 64:=by omega
 have yP:(k:Int) < 64:=by omega
 have cL:min k 64=k:=by omega
 have oP:=Lh vF;have uU:=Sp vF;have GP:=Qq (Qil uQ);have aV:=Qq (Ip vF);have tX:=Qq (fun s:Nat=>Qos (s:=s) (w:=k) (by omega));obtain⟨tw2,lS⟩:∃z,z=2^k:=⟨_,rfl⟩;rw [<-lS]at oP GP aV;have cW:=Qq lS;obtain⟨ak,qS⟩:∃z,z=2^k - 1:=⟨_,rfl⟩;rw [<-qS]at uU tX;rw [oP]at uU;have cE:=Qq (show Qp ak by rw [qS,<-lS];exact Nat.lt_of_le_of_lt (Nat.sub_le _ _) aV.out);obtain⟨e0,e1,e2,el⟩:=Zt ((zL.out.block (Qf B0.out)).trans B0.out);clear xI yN uQ lS qS;go_upto_region 4 with(fail);refine wp_region_held_drew (S:=fun w'=>w'.cell? (⟨b,0,none⟩)=some (.int .i64 N)/\w'.cell? (⟨b,1,none⟩)=some (.slice Av lv cv)/\w'.cell? (⟨b,2,none⟩)=some (.slice Ar lr cr)) (by kernel_rfl) ⟨xc el e0,xc el e1,xc el e2⟩ (fun zZ=> ?_)
 refine tk 0 zZ ?_;refine tk 1 zZ ?_;refine tk 2 zZ ?_;refine wpAnyH_ready (rs:= [3]) (by kernel_rfl) (by simp) ?_;refine AllReadyH.cons rfl (fun K hK=> ?_) AllReadyH.nil;go_simp;refine(Qfl _ md tw2 _ (HT.out.ext (X0.out.trans (zL.out.trans xw))) (HM.out.ext (X0.out.trans (zL.out.trans xw))) zD.out tS.out.good.ck GP.out aV.out).mono ?_;rintro e w4 ⟨out,rfl,UJ,XV,yV⟩;have hx:Ext w1 w4:=Ext.trans xw yV;have YY:=Qq UJ;have iW:=Qq XV;clear UJ XV yV;go_wp2_with fail;refine hK.out _ _ ⟨xc el e0,xc el e1,xc el e2⟩ (fun zZ=> ?_);clear hK K;refine Qd ?_;refine tk 4 zZ ?_
 refine tk 5 zZ ?_;refine tk 6 zZ ?_;refine tk 7 zZ ?_;refine tk 8 zZ ?_;refine wpAnyH_done (by kernel_rfl) ?_ _;have yI:=Qq (show Ext w1 w4 from hx);clear e0 e1 e2 el zZ hx;have IP:=Qq (show Mh md (2^k) out from by rw [<-cW.out];exact YY.out);have WD:=Qq (Mh.part IP.out tS.out);have rT:=Qq (show Ss md out=0 from by
  have h1:=WD.out.2.2;have h2:out≠0:=fun e=>by
   have:=IP.out.sub k (by rw [Nat.testBit_two_pow];simp);rw [e,Nat.zero_testBit]at this;cases this
  unfold Ss;rw [if_neg (by rw [tS.out.good.ck];simp),if_neg,if_neg h2];rw [show Js out (Zs md.n.toNat)=true from Yb.2 fun i hi=>by rw [Kf,decide_eq_true (Ka h1 hi)]]
  simp)
 obtain⟨e0,e1,e2,el⟩:=Zt (((zL.out.trans yI.out).block (Qf B0.out)).trans B0.out);go_wp2_with fail;refine(Sq _ md out _ iW.out (HT.out.ext (X0.out.trans (zL.out.trans yI.out))) (HM.out.ext (X0.out.trans (zL.out.trans yI.out))) zD.out rT.out).mono ?_;rintro e w5 ⟨vr,vl,rfl,hx,wY⟩;have yE:=Qq (zL.out.trans (yI.out.trans hx));have H7:=X0.out.size;have H3:=zL.out.size;have G8:=yI.out.size;have lN:=Qq ((yE.out.block (Qf B0.out)).trans B0.out);have RA:=Qq ((yE.out.block (Qf B1.out)).trans B1.out);obtain⟨A3,c3,ZT,_⟩:=wY.here.2;have kR:=Qf B1.out
 have dY:=ShC.put (lo:=W0.heap.size) (b:=b) (md:=Ji md (Jy out)) (u:=vr) (fun W hW=>(wY W hW).1) (by omega) (by omega) lN.out;obtain⟨A1,c1,A2,c2,hu,cI⟩:=dY;subst hu ZT;obtain⟨md1,TX⟩:∃z,z=Ji md (Jy out):=⟨_,rfl⟩;have PT:=Qq TX;rw [<-TX]at cI⊢;have aY:=Qq cI;obtain⟨⟨q0,q1,q2⟩,⟨f0,f1,f2⟩,ql⟩:=Zc lN.out;obtain⟨l1,rC⟩:∃z,z=md1.n:=⟨_,rfl⟩;obtain⟨l2,sX⟩:∃z,z=md1.val.length:=⟨_,rfl⟩;obtain⟨l3,rP⟩:∃z,z=md1.rel.length:=⟨_,rfl⟩;rw [<-rC,<-sX,<-rP]at aY⊢;have qT:=Xz iW.out cE.out;obtain⟨sk,gM⟩:∃z,z=out&&&ak:=⟨_,rfl⟩;rw [<-gM]at qT;have nN:=Qq (show Gz sk 64=Gz out k by rw [gM];exact tX.out out)
 have PB:=Qq (show Qp sk by rw [gM];exact Nat.lt_of_le_of_lt Nat.and_le_right cE.out);have FL:=Qq (show Ext w (((w5.setCell ⟨b,0,none⟩ (.int .i64 l1)).setCell ⟨b,1,none⟩ (.slice A1 l2 c1)).setCell ⟨b,2,none⟩ (.slice A2 l3 c2))from Yv (X0.out.trans yE.out) xT.out _ _ _);have ZA:=Qq (show(((w5.setCell ⟨b,0,none⟩ (.int .i64 l1)).setCell ⟨b,1,none⟩ (.slice A1 l2 c1)).setCell ⟨b,2,none⟩ (.slice A2 l3 c2)).heap[b+1]?=some (.cells #[.int .i64 0,.slice none 0 0,.slice none 0 0] 26 (0,0))from(Kv (by omega) _ _ _).trans RA.out);have SG:=Qq kR;clear hx wY cI e0 e1 e2 el H7 H3 G8 kR TX gM rC sX rP
 go_wp2_with fail;refine(Qek sk PB.out _).mono ?_;rintro e w6 ⟨rfl,rfl⟩;rw [nN.out];clear q0 q1 q2 f0 f1 f2 ql qT uU oP;obtain⟨w6,hZ⟩:∃z,z=(((w5.setCell ⟨b,0,none⟩ (.int .i64 l1)).setCell ⟨b,1,none⟩ (.slice A1 l2 c1)).setCell ⟨b,2,none⟩ (.slice A2 l3 c2)):=⟨_,rfl⟩;rw [<-hZ]at aY FL ZA⊢;have Z0:=Qq hZ;have gA:=Qq (show Uh lg f md1 (Gz out k) by rw [PT.out];exact WD.out.1);obtain⟨k1,yP⟩:∃z,z=Gz out k:=⟨_,rfl⟩;have iY:=Qq yP;rw [<-yP]at gA⊢;clear hZ yP cL vF GP aV cW cE nN PB rT;go_wp2_with fail;go_step3;go_wp2_with fail;obtain⟨lo,vK⟩:∃z,z=W0.heap.size:=⟨_,rfl⟩
 have WL:=Qq (show b+1 < lo by rw [vK];exact SG.out);have PU:=Qq (show lo<=w6.heap.size by rw [vK,Z0.out];have:=X0.out.size;have:=yE.out.size;simp [World.setCell];exact yE.out.size);rw [<-vK]at aY;clear vK;go_loopw [3] (fun v3 wr=>∃kc:Nat,v3=.int .i64 (kc:Int)/\kc < 64/\Hid (lo<=wr.heap.size/\∃mdc,ShC lo b wr mdc/\Ext w wr/\Uh lg f mdc kc/\wr.heap[b+1]?=some (.cells #[.int .i64 0,.slice none 0 0,.slice none 0 0] 26 (0,0))/\∀md' k',Lq lg f mdc kc md' k'->Lq lg f md1 k1 md' k')) (fun _ wr=>(intOf ((wr.cell? ⟨b,0,none⟩).getD undef)).toNat)
 case atStart=>exact⟨k1,rfl,by have:=gA.out.lt;have:=(Zn gA.out.good.ck).2.1;omega,Qq ⟨PU.out,md1,aY.out,FL.out,gA.out,ZA.out,fun _ _ h=>h⟩⟩
 case round =>
  clear aY FL ZA SG gA WD yI yE lN RA B0 B1 zL vX YY tX PU Z0;obtain⟨kc,rfl,R8,zY⟩:=hrel;obtain⟨R4,mdc,cI,hx,xI,RZ,XL⟩:=zY.out;have PU:=Qq R4;have aY:=Qq cI;have HX:=Qq hx;have tS:=Qq xI;have ZA:=Qq RZ;have fK:=Qq XL;obtain⟨A,c,A',c',KI,wY⟩:=cI;have ZB:=Qq KI;have nR:=Qq wY;obtain⟨xS,EI,_⟩:=Zn xI.good.ck;obtain⟨n,hn⟩:=Int.eq_ofNat_of_zero_le (show 0<=mdc.n by omega);have cK:mdc.n.toNat=n:=by rw [hn];exact Int.toNat_natCast n
  have qV:=Qq cK;have yN:n<=64:=by omega
  have hkcn:kc < n:=by have:=xI.lt;omega
  rw [hn]at ZB nR;obtain⟨m2,xM⟩:∃z,z=mdc.val.length:=⟨_,rfl⟩;obtain⟨m3,jG⟩:∃z,z=mdc.rel.length:=⟨_,rfl⟩;rw [<-xM,<-jG]at ZB nR;clear zY R4 hx xI RZ XL KI wY xS EI hn cK xM jG;obtain⟨e0,e1,e2,el⟩:=Zt ZB.out;obtain⟨wa,uU⟩:∃v,v=wr:=⟨_,rfl⟩;subst uU;go_wp2_with fail;clear e0 e1 e2 el;go_loopw [3,14] (fun v3 v14 wr=>v3=.int .i64 (kc:Int)/\∃z:Int,v14=.int .i64 z/\ -1<=z/\z < n/\Hid (Ext wa wr/\∀u:Nat,z < u->u < n->u≠kc->cmN lg f (Nj mdc u) (Xt kc u:Nat)≠0)) (fun _ v _=>(intOf v+1).toNat)
  case atStart=>exact⟨rfl,(n:Int) - 1,rfl,by omega,by omega,Qq ⟨Qz,fun u h1 h2=>by omega⟩⟩
  case round =>
   obtain⟨rfl,z,rfl,zB,nU,zY⟩:=hrel;have tI:=Qq zY.out.1;have HJ:=Qq zY.out.2;clear zY;obtain⟨e0,e1,e2,el⟩:=Zt ((tI.out.block (Qf ZB.out)).trans ZB.out);by_cases hz:0<=z
   ·obtain⟨j,rfl⟩:=Int.eq_ofNat_of_zero_le hz;clear hz;by_cases jH:j=kc
    ·have UQ:((j:Int)==(kc:Int))=true:=by rw [jH];simp
     have QA:=Qq jH;clear jH;go_wp2_with fail;go_roundw
     case rel=>exact⟨by first|rfl|trivial,(j:Int) - 1,rfl,by omega,by omega,Qq ⟨tI.out,fun u h1 h2 h3=>by
      by_cases e:u=j
      ·exact absurd (e.trans QA.out) h3
      exact HJ.out u (by omega) h2 h3⟩⟩
     case measure=>simp [intOf] <;> omega
    have UQ:((j:Int)==(kc:Int))=false:=by rw [beq_eq_false_iff_ne];omega
    have QA:=Qq jH;have KX:=Qq (show j < mdc.n.toNat by rw [qV.out];omega);clear jH;go_wp2_with fail;refine(Qrf _ mdc j kc _ (HT.out.ext (HX.out.trans tI.out)) (nR.out _ (Yp.of_ext tI.out)) (Qq5 tS.out.good.ck) tS.out.good.ck KX.out tS.out.lt QA.out).mono ?_;rintro e w3 ⟨u,rfl,zI,RW⟩;have bU:=Qq RW;obtain⟨dr,aH⟩:∃z,z=Nj mdc j:=⟨_,rfl⟩;have mE:=Qq aH;have JC:=Qq (show dr.n=(n:Int) - 1 by
     rw [aH];show((Jy (Jv (Zs mdc.n.toNat) (2^j))).length:Int)=_;have h1:=qV.out;rw [Qye (by omega) KX.out,h1]
     omega)
    rw [<-aH]at bU RW;obtain⟨_,_,hu,⟨A1,c1,kJ,_⟩,⟨A2,c2,mH,_⟩⟩:=RW.here;subst hu kJ mH;obtain⟨d1,qN⟩:∃z,z=dr.val.length:=⟨_,rfl⟩;obtain⟨d2,rD⟩:∃z,z=dr.rel.length:=⟨_,rfl⟩;obtain⟨d0,mO⟩:∃z,z=dr.n:=⟨_,rfl⟩;obtain⟨sw,CC⟩:∃z,z=Xt kc j:=⟨_,rfl⟩;have SO:=Qq mO;have LD:=Qq qN;have bW:=Qq rD;have pM:=Qq CC;rw [<-mO,<-qN,<-rD]at bU⊢;rw [<-CC];have zC:=Qq (tI.out.trans zI);have qU:=Qq zI.size;clear RW zI aH mO qN rD CC e0 e1 e2 el;obtain⟨w5,oQ⟩:∃z,z=w3.alloc (.cells #[.int .i64 d0,.slice A1 d1 c1,.slice A2 d2 c2] 26):=⟨_,rfl⟩;have yE:=Qq (show Ext w3 w5 by rw [oQ];exact Qz.alloc _)
    have lN:=Qq (show w5.heap[w3.heap.size]?=some (.cells #[.int .i64 d0,.slice A1 d1 c1,.slice A2 d2 c2] 26 (0,0)) by rw [oQ];exact heap_alloc_new _ _);go_upto_region 12 with(fail);rw [<-oQ];obtain⟨xb,wQ⟩:∃z,z=w3.heap.size:=⟨_,rfl⟩;rw [<-wQ]at lN⊢;clear oQ wQ;obtain⟨e0,e1,e2,el⟩:=Zt lN.out;go_wp2_with fail;refine(Ro lg _ _ f dr sw _ (HT.out.ext (HX.out.trans (zC.out.trans yE.out))) (HF.out.ext (HX.out.trans (zC.out.trans yE.out))) (bU.out _ (Yp.of_ext yE.out)) (by rw [mE.out];exact Qq5 (Qgq tS.out.good.ck (by rw [Qye (by have:=qV.out;omega) KX.out];have:=qV.out;have:=QA.out;omega) (Qdp _)))).mono ?_
    rintro e w4 ⟨rfl,yD⟩;have yI:=Qq (zC.out.trans (yE.out.trans yD));have cC:=Qq ((yD.block (Qf lN.out)).trans lN.out);have SM:=Qq (bU.out.next (X':=fun k=>k < wr.heap.size) (Yp.of_ext (yE.out.trans yD)) (fun _ _ h=>h));clear yD e0 e1 e2 el;obtain⟨c0,mR⟩:∃z,z=cmN lg f dr (sw:Int):=⟨_,rfl⟩;have YZ:=Qq (show cmN lg f (Nj mdc j) (Xt kc j:Nat)=c0 by rw [mR,mE.out,pM.out]);rw [<-mR];clear mR;by_cases sD:c0=0
    ·subst sD;obtain⟨e0,e1,e2,el⟩:=Zt cC.out;have xD:=Qq ((yI.out.block (Qf ZB.out)).trans ZB.out);have gC:=Qq ((yI.out.block (Qf ZA.out)).trans ZA.out);obtain⟨⟨q0,q1,q2⟩,⟨f0,f1,f2⟩,ql⟩:=Zc xD.out;obtain⟨j2,iH,MB⟩:=Dm.1 YZ.out;obtain rfl:j2=Xt kc j:=by omega
     have bL:=Qq MB;have SY:lo<=wr.heap.size:=Qx PU.out tI.out.size;have dY:=ShC.put (lo:=lo) (b:=b) (md:=dr) (u:=.agg #[.int .i64 d0,.slice A1 d1 c1,.slice A2 d2 c2]) SM.out SY (by have:=WL.out;omega) xD.out;obtain⟨B1',k1',B2',k2',hu,cI⟩:=dY;rw [<-SO.out,<-LD.out,<-bW.out]at hu cI;injection hu with hu;obtain⟨rfl,rfl,rfl,rfl⟩:A1=B1'/\c1=k1'/\A2=B2'/\c2=k2':=by
      injection hu with hu;injection hu with _ hu;injection hu with h1 hu;injection hu with h2 _;injection h1 with a1 _ a2;injection h2 with a3 _ a4;exact⟨a1,a2,a3,a4⟩
     have GD:=Qq cI;have FZ:=Qq (show lo<=w4.heap.size by have:=yI.out.size;have:=PU.out;omega);have I1:=Qq (show Ext w (((w4.setCell ⟨b,0,none⟩ (.int .i64 d0)).setCell ⟨b,1,none⟩ (.slice A1 d1 c1)).setCell ⟨b,2,none⟩ (.slice A2 d2 c2))from Yv (HX.out.trans yI.out) xT.out _ _ _);have bZ:=Qq (show(((w4.setCell ⟨b,0,none⟩ (.int .i64 d0)).setCell ⟨b,1,none⟩ (.slice A1 d1 c1)).setCell ⟨b,2,none⟩ (.slice A2 d2 c2)).heap[b+1]?=some (.cells #[.int .i64 0,.slice none 0 0,.slice none 0 0] 26 (0,0))from(Kv (by omega) _ _ _).trans gC.out);clear iH MB cI hu SY;have GR:=Qq (show Uh lg f dr sw by rw [mE.out,pM.out];exact bL.out)
     have oN:=Qq (Zt (Yx xD.out (.int .i64 d0) (.slice A1 d1 c1) (.slice A2 d2 c2))).1;have vU:=Qq (Zt ZB.out).1;go_wp2_with fail;refine⟨⟨sw,rfl,?_,Qq ⟨by simpa [World.setCell]using FZ.out,dr,GD.out,I1.out,GR.out,bZ.out,fun md' k' h=>fK.out md' k' (.step KX.out QA.out YZ.out (fun u h1 h2 h3=>HJ.out u (by omega) (by rw [<-qV.out];exact h2) h3) (by rw [<-mE.out,<-pM.out];exact h))⟩⟩,?_⟩
     ·rw [pM.out];unfold Xt
      split <;> omega
     rw [oN.out,vU.out];show(d0:Int).toNat < ((n:Nat):Int).toNat;rw [SO.out,JC.out];omega
    have zQ:(c0==0)=false:=by rw [beq_eq_false_iff_ne];exact sD
    have N6:=Qq sD;clear sD;go_wp2_with fail;go_roundw
    case rel=>exact⟨by first|rfl|trivial,(j:Int) - 1,rfl,by omega,by omega,Qq ⟨yI.out,fun u h1 h2 h3=>by
     by_cases e:u=j
     ·rw [e,YZ.out];exact N6.out
     exact HJ.out u (by omega) h2 h3⟩⟩
    case measure=>simp [intOf] <;> omega
   obtain rfl:z= -1:=by omega
   have gC:=Qq ((tI.out.block (Qf ZA.out)).trans ZA.out);obtain⟨⟨q0,q1,q2⟩,⟨f0,f1,f2⟩,ql⟩:=Zc gC.out;have GI:=Qq (show Qse lg f md (k:Int) mdc kc from .inr ⟨LC.out.symm,k,out,rfl,IP.out,by
    rw [<-PT.out,<-iY.out];exact fK.out _ _ (.done fun u h1 h2=>HJ.out u (by omega) (by rw [<-qV.out];exact h1) h2)⟩)
   have LA:=Qq (nR.out.next (X':=fun k=>k < lo) (Yp.of_ext tI.out) (fun _ _ h=>h));have IC:=Qq (show w.heap.size<=lo by have:=xT.out;have:=WL.out;omega);have vB:=Qq (show Frz (fun k=>k < w.heap.size) (((wr.setCell ⟨b+1,0,none⟩ (.int .i64 (n:Int))).setCell ⟨b+1,1,none⟩ (.slice A m2 c)).setCell ⟨b+1,2,none⟩ (.slice A' m3 c')) (fun W=>MdV W (.agg #[.int .i64 (n:Int),.slice A m2 c,.slice A' m3 c']) mdc)from LA.out.keep IC.out (by simp [World.setCell]) (fun k h1 _=>Kv (by have:=WL.out;omega) _ _ _));clear hz;go_wp2_with fail
   (try simp only [Exit.noGoto_ret])
   refine bodyPost_ret (Yh Tryz.results29 _ _ rfl (Ze (Yx gC.out _ _ _)) Tryz.underlying26 rfl (by kernel_rfl)) rfl ?_;exact⟨_,mdc,kc,rfl,GI.out,Yv (HX.out.trans tI.out) (by have:=xT.out;omega) _ _ _,vB.out⟩
def nbE(n a v k:Int):Int:=if n < 1\/64 < n\/a < 0\/4 < a\/v < 0\/8 < v then 2 else if 12 < Yk n.toNat a.toNat v.toNat then 8 else if k < 0\/((2^Yk n.toNat a.toNat v.toNat:Nat):Int)<=k then 2 else 0
def nbN(n a v k:Int):Md:=if nbE n a v k=0 then Fg n.toNat a.toNat v.toNat k.toNat else⟨0,[],[]⟩
theorem Qng {k:Nat}(h:k<=12):IntKind.i64.wrap ((2:Int)^k)=((2^k:Nat):Int):=by
 have e:∀k:Fin 13,IntKind.i64.wrap ((2:Int)^k.val)=((2^k.val:Nat):Int):=by decide+kernel
 exact e ⟨k,by omega⟩
theorem Qfp(n a v k:Int)(w:World):
 Calls Tryz.prog 34 #[.int .i64 n,.int .i64 a,.int .i64 v,.int .i64 k] w fun e w'=>∃u,e=.returned (.tuple #[u,.int .i64 (nbE n a v k)])/\Ext w w'/\Frz (fun q=>q < w.heap.size) w' (fun W=>MdV W u (nbN n a v k)):=by
 obtain⟨er,vG⟩:∃z,z=nbE n a v k:=⟨_,rfl⟩;have wU:=Qq vG;rw [<-vG];obtain⟨W0,zE⟩:∃W,W=w.alloc (.cells #[.int .i64 0,.slice none 0 0,.slice none 0 0] 26):=⟨_,rfl⟩;have X0:=Qq (show Ext w W0 by rw [zE];exact Qz.alloc _);obtain⟨b,hb⟩:∃b,b=w.heap.size:=⟨_,rfl⟩;have B0:=Qq (show W0.heap[b]?=some (.cells #[.int .i64 0,.slice none 0 0,.slice none 0 0] 26 (0,0)) by rw [zE,hb];exact heap_alloc_new _ _);have xT:=Qq (show w.heap.size<=b by omega);have FE:=Qq (fun(h:er≠0)=>show nbN n a v k=⟨0,[],[]⟩from if_neg (by rw [<-wU.out];exact h));obtain⟨⟨r0,r1,r2⟩,⟨g0,g1,g2⟩,rl⟩:=Zc B0.out;clear vG;by_cases hrange:n < 1\/64 < n\/a < 0\/4 < a\/v < 0\/8 < v
 ·have HE:=Qq (show er=2 by rw [wU.out];unfold nbE;rw [if_pos hrange]);have HZ:=Qq (FE.out (by rw [HE.out];decide))
  have key:∀e w',e=.returned (.tuple #[.agg #[.int .i64 0,.slice none 0 0,.slice none 0 0],.int .i64 2])->Ext w w'->(∃u,e=Ending.returned (.tuple #[u,.int .i64 er])/\Ext w w'/\Frz (fun q=>q < w.heap.size) w' (fun W=>MdV W u (nbN n a v k))):=
   fun e w' h1 h2=>⟨.agg #[.int .i64 0,.slice none 0 0,.slice none 0 0],by rw [HE.out];exact h1,h2,fun W _=>by rw [HZ.out];exact Gw _⟩
  have KEY:=Qq key;clear key;have qG:n < 1\/(¬n < 1/\64 < n)\/(¬n < 1/\¬64 < n/\a < 0)\/(¬n < 1/\¬64 < n/\¬a < 0/\4 < a)\/(¬n < 1/\¬64 < n/\¬a < 0/\¬4 < a/\v < 0)\/(¬n < 1/\¬64 < n/\¬a < 0/\¬4 < a/\¬v < 0/\8 < v):=by omega
  clear hrange;rcases qG with h1|⟨h1,h2⟩|⟨h1,h2,h3⟩|⟨h1,h2,h3,h4⟩|⟨h1,h2,h3,h4,h5⟩|⟨h1,h2,h3,h4,h5,h6⟩ <;>
  ·go_enter Tryz.func34,Tryz.ntmps34;go_upto_region 1 with(fail);rw [<-zE,<-hb];clear zE hb;go_wp2_with fail
   (try simp only [Exit.inBlock,Exit.then])
   refine bodyPost_ret (Vk Tryz.results34 _ _ rfl (Ze (Yx B0.out _ _ _)) Tryz.underlying26 rfl (by kernel_rfl)) rfl ?_;exact KEY.out _ _ rfl (Yv X0.out xT.out _ _ _)
 have lK:=Qq (show er=if 12 < Yk n.toNat a.toNat v.toNat then 8 else if k < 0\/((2^Yk n.toNat a.toNat v.toNat:Nat):Int)<=k then 2 else 0 by rw [wU.out];unfold nbE;rw [if_neg hrange]);obtain⟨N,rfl⟩:=Int.eq_ofNat_of_zero_le (show 0<=n by omega);obtain⟨A,rfl⟩:=Int.eq_ofNat_of_zero_le (show 0<=a by omega);obtain⟨V,rfl⟩:=Int.eq_ofNat_of_zero_le (show 0<=v by omega);rw [Int.toNat_natCast,Int.toNat_natCast,Int.toNat_natCast]at lK;have h1:¬(N:Int) < 1:=fun h=>hrange (.inl h)
 have h2:¬(64:Int) < (N:Int):=fun h=>hrange (.inr (.inl h))
 have h3:¬(A:Int) < 0:=by omega
 have h4:¬(4:Int) < (A:Int):=fun h=>hrange (.inr (.inr (.inr (.inl h))))
 have h5:¬(V:Int) < 0:=by omega
 have h6:¬(8:Int) < (V:Int):=fun h=>hrange (.inr (.inr (.inr (.inr (.inr h)))))
 have V7:1<=N:=by omega
 have hN:N<=64:=by omega
 have hA:A<=4:=by omega
 have hV:V<=8:=by omega
 have fU:=Qq (Oe N A V hN hA hV);have lD:=Qq (fun k W h1 h2=>Qzj N A V k W V7 hN hA hV h1 h2);obtain⟨L,hL⟩:∃z,z=Yk N A V:=⟨_,rfl⟩;rw [<-hL]at fU lK lD;have L2:=Qq hL;clear hrange hL;by_cases h12:12 < L
 ·have hq:(12:Int) < (L:Int):=by omega
  have HE:=Qq (show er=8 by rw [lK.out,if_pos h12]);have HZ:=Qq (FE.out (by rw [HE.out];decide));clear h12;go_enter Tryz.func34,Tryz.ntmps34;go_upto_region 1 with(fail);rw [<-zE,<-hb];clear zE hb;go_wp2_with fail;refine(fU.out _).mono ?_;rintro e w1 ⟨rfl,rfl⟩;go_wp2_with fail
  (try simp only [Exit.inBlock,Exit.then])
  refine bodyPost_ret (Vk Tryz.results34 _ _ rfl (Ze (Yx B0.out _ _ _)) Tryz.underlying26 rfl (by kernel_rfl)) rfl ?_;exact⟨_,by rw [HE.out] <;> rfl,Yv X0.out xT.out _ _ _,fun W _=>by rw [HZ.out];exact Gw _⟩
 have hq:¬(12:Int) < (L:Int):=by omega
 have VG:L<=12:=by omega
 have jE:min L 64=L:=by omega
 have tF:2^L<=4096:=show 2^L<=2^12 from Nat.pow_le_pow_right (by decide) VG
 have wB:wrap64 ((2:Int)^L)=((2^L:Nat):Int):=by
  rw [show(2:Int)^L=((2^L:Nat):Int) by simp];exact Hx (by omega)
 have xP:IntKind.i64.wrap ((2:Int)^L)=((2^L:Nat):Int):=Qng VG;rw [if_neg (by omega)]at lK;have SH:=Qq (show ∀K:Nat,K < 2^L->K < 2^Yk N A V from fun K h=>by rw [<-L2.out];exact h);obtain⟨P,hP⟩:∃z,z=2^L:=⟨_,rfl⟩;rw [<-hP]at wB xP lK lD tF SH;clear hP;by_cases hk:k < 0\/((P:Nat):Int)<=k
 ·have HE:=Qq (show er=2 by rw [lK.out,if_pos hk]);have HZ:=Qq (FE.out (by rw [HE.out];decide));have qG:k < 0\/(¬k < 0/\(P:Int)<=k):=(Classical.em (k < 0)).elim Or.inl (fun h=> .inr ⟨h,hk.resolve_left h⟩);clear hk;rcases qG with k1|⟨k1,k2⟩ <;>
  ·go_enter Tryz.func34,Tryz.ntmps34;go_upto_region 1 with(fail);rw [<-zE,<-hb];clear zE hb;go_wp2_with fail;refine(fU.out _).mono ?_;rintro e w1 ⟨rfl,rfl⟩;go_wp2_with fail
   (try simp only [Exit.inBlock,Exit.then])
   refine bodyPost_ret (Vk Tryz.results34 _ _ rfl (Ze (Yx B0.out _ _ _)) Tryz.underlying26 rfl (by kernel_rfl)) rfl ?_;exact⟨_,by rw [HE.out] <;> rfl,Yv X0.out xT.out _ _ _,fun W _=>by rw [HZ.out];exact Gw _⟩
 have k1:¬k < 0:=fun h=>hk (.inl h)
 have k2:¬(P:Int)<=k:=fun h=>hk (.inr h)
 have HE:=Qq (show er=0 by rw [lK.out,if_neg hk]);obtain⟨K,rfl⟩:=Int.eq_ofNat_of_zero_le (Int.not_lt.1 k1);have L4:=Qq (show K < P from Int.ofNat_lt.1 (Int.not_le.1 k2));have HZ:=Qq (show nbN (N:Int) (A:Int) (V:Int) (K:Int)=Fg N A V K by
  have h:=wU.out;unfold nbN;rw [if_pos (by rw [<-h];exact HE.out),Int.toNat_natCast,Int.toNat_natCast,Int.toNat_natCast,Int.toNat_natCast])
 have fV:=Qq VG;clear hk;go_enter Tryz.func34,Tryz.ntmps34;go_upto_region 1 with(fail);rw [<-zE,<-hb];clear zE hb r0 r1 r2 g0 g1 g2 rl;go_wp2_with fail;refine(fU.out _).mono ?_;rintro e w1 ⟨rfl,rfl⟩;go_wp2_with fail;refine(lD.out K _ fV.out L4.out).mono ?_;rintro e w2 ⟨u,rfl,hf,hx⟩;have HF:=Qq hf;have HX:=Qq hx;obtain⟨_,_,hu,⟨A1,c1,kJ,_⟩,⟨A2,c2,mH,_⟩⟩:=hf.here;subst hu kJ mH;obtain⟨d1,qN⟩:∃z,z=(Fg N A V K).val.length:=⟨_,rfl⟩;obtain⟨d2,rD⟩:∃z,z=(Fg N A V K).rel.length:=⟨_,rfl⟩;obtain⟨d0,mO⟩:∃z,z=(Fg N A V K).n:=⟨_,rfl⟩;rw [<-mO,<-qN,<-rD]at HF⊢;have rV:=Qq ((hx.block (Qf B0.out)).trans B0.out)
 obtain⟨⟨q0,q1,q2⟩,⟨f0,f1,f2⟩,ql⟩:=Zc rV.out;have tB:=Qq (Qf B0.out)
 have vB:=Qq (show Frz (fun q=>q < w.heap.size) (((w2.setCell ⟨b,0,none⟩ (.int .i64 d0)).setCell ⟨b,1,none⟩ (.slice A1 d1 c1)).setCell ⟨b,2,none⟩ (.slice A2 d2 c2)) (fun W=>MdV W (.agg #[.int .i64 d0,.slice A1 d1 c1,.slice A2 d2 c2]) (Fg N A V K))from
  HF.out.keep X0.out.size (by simp [World.setCell]) (fun k h1 _=>Kv (by have:=tB.out;omega) _ _ _))
 clear hf hx mO qN rD;go_wp2_with fail
 (try simp only [Exit.inBlock,Exit.then])
 refine bodyPost_ret (Vk Tryz.results34 _ _ rfl (Ze (Yx rV.out _ _ _)) Tryz.underlying26 rfl (by kernel_rfl)) rfl ?_;exact⟨_,by rw [HE.out] <;> rfl,Yv (X0.out.trans HX.out) xT.out _ _ _,by rw [HZ.out];exact vB.out⟩
def lsA(f:List Nd):Nat:=Ya (Jr (Qg f))
def lsF(f:List Nd):Nat:=Ya (Yy (Qg f))
def Ts(lg:Int)(f:List Nd)(n k:Nat):Prop:=(∀m j,1<=m->m < n->j < 2^Yk m (lsA f) (lsF f)->cmN lg f (Fg m (lsA f) (lsF f) j) 0≠0)/\∀j,j < k->cmN lg f (Fg n (lsA f) (lsF f) j) 0≠0
def Ma(lg:Int)(f:List Nd)(most:Int)(md:Md)(er:Int):Prop :=
 (er≠0/\md=⟨0,[],[]⟩/\(((lg < 0\/6 < lg)/\er=1)\/((0<=lg/\lg<=6)/\((check f≠0/\er=check f)\/(check f=0/\((Js (Jm f) 15=false/\er=10)\/(Js (Jm f) 15=true/\(((most < 1\/64 < most)/\er=2)\/
  ((1<=most/\most<=64)/\((12 < Yk most.toNat (lsA f) (lsF f)/\er=8)\/(Yk most.toNat (lsA f) (lsF f)<=12/\er=6/\Ts lg f (most.toNat+1) 0)))))))))))\/
 (er=0/\(0<=lg/\lg<=6)/\check f=0/\Js (Jm f) 15=true/\(1<=most/\most<=64)/\Yk most.toNat (lsA f) (lsF f)<=12/\
  ∃n k,1<=n/\n<=most.toNat/\k < 2^Yk n (lsA f) (lsF f)/\md=Fg n (lsA f) (lsF f) k/\cmN lg f md 0=0/\Ts lg f n k)
theorem Qa5 {n m a v:Nat}(h:n<=m):Yk n a v<=Yk m a v:=Nat.add_le_add (Nat.mul_le_mul_right _ h) (Nat.mul_le_mul_right _ (Nat.mul_le_mul h h))
theorem Ts.step {lg:Int} {f:List Nd} {n k:Nat}(h:Ts lg f n k)(hc:cmN lg f (Fg n (lsA f) (lsF f) k) 0≠0):Ts lg f n (k+1):=
 ⟨h.1,fun j hj=>by
  by_cases e:j=k
  ·rw [e];exact hc
  exact h.2 j (by omega)⟩
theorem Ts.turn {lg:Int} {f:List Nd} {n:Nat}(h:Ts lg f n (2^Yk n (lsA f) (lsF f))):Ts lg f (n+1) 0 :=
 ⟨fun m j h1 h2 hj=>by
  by_cases e:m=n
  ·subst e;exact h.2 j hj
  exact h.1 m j h1 (by omega) hj,fun j hj=>absurd hj (by omega)⟩
theorem La {w w':World} {er:Int} {lg most:Int} {f:List Nd} {md:Md} {e:Ending}(he:e=.returned (.tuple #[.agg #[.int .i64 0,.slice none 0 0,.slice none 0 0],.int .i64 er]))(hm:md=⟨0,[],[]⟩)(hx:Ext w w')(h:Ma lg f most md er):
 ∃u md er,e=.returned (.tuple #[u,.int .i64 er])/\Ma lg f most md er/\Ext w w'/\Frz (fun q=>q < w.heap.size) w' (fun W=>MdV W u md):=
 ⟨_,md,er,he,h,hx,fun W _=>by rw [hm];exact Gw _⟩
theorem Qgr(lg:Int)(v:Value)(f:List Nd)(most:Int)(w:World)(hT:Ky w)(h:Fml w v f):
 Calls Tryz.prog 32 #[.int .i64 lg,v,.int .i64 most] w fun e w'=>∃u md er,e=.returned (.tuple #[u,.int .i64 er])/\Ma lg f most md er/\Ext w w'/\Frz (fun q=>q < w.heap.size) w' (fun W=>MdV W u md):=by
 have HT:=Qq hT;have HF:=Qq h;obtain⟨Af,cf,rfl,_⟩:=Qh h;obtain⟨ck,zT⟩:∃z,z=check f:=⟨_,rfl⟩;have xV:=Qq zT;obtain⟨W0,zE⟩:∃W,W=w.alloc (.cells #[.int .i64 0,.slice none 0 0,.slice none 0 0] 26):=⟨_,rfl⟩;have X0:=Qq (show Ext w W0 by rw [zE];exact Qz.alloc _);obtain⟨b,hb⟩:∃b,b=w.heap.size:=⟨_,rfl⟩;have B0:=Qq (show W0.heap[b]?=some (.cells #[.int .i64 0,.slice none 0 0,.slice none 0 0] 26 (0,0)) by rw [zE,hb];exact heap_alloc_new _ _);have xT:=Qq (show w.heap.size<=b by omega);obtain⟨lo,vK⟩:∃z,z=decide (0<=lg/\lg<=6):=⟨_,rfl⟩;have mC:=Qq vK;clear hT h zT;go_enter Tryz.func32,Tryz.ntmps32
 go_upto_region 1 with(fail);rw [<-zE,<-hb];clear zE hb;go_wp2_with fail;refine(Ec lg _).mono ?_;rintro e w1 ⟨rfl,rfl⟩;rw [<-vK];clear vK;obtain⟨⟨r0,r1,r2⟩,⟨g0,g1,g2⟩,rl⟩:=Zc B0.out;cases lo
 ·have HS:=Qq (show Ma lg f most ⟨0,[],[]⟩ 1 from .inl ⟨by decide,rfl,.inl ⟨by have:=of_decide_eq_false mC.out.symm;omega,rfl⟩⟩);go_wp2_with fail
  (try simp only [Exit.inBlock,Exit.then])
  refine bodyPost_ret (Vk Tryz.results32 _ _ rfl (Ze (Yx B0.out _ _ _)) Tryz.underlying26 rfl (by kernel_rfl)) rfl ?_;exact La rfl rfl (Yv X0.out xT.out _ _ _) HS.out
 have oO:=Qq (of_decide_eq_true mC.out.symm);clear r0 r1 r2 g0 g1 g2 rl mC;go_wp2_with fail;refine(Vh _ f _ (HF.out.ext X0.out).1).mono ?_;rintro e w2 ⟨rfl,hx⟩;rw [<-xV.out];have S2:=Qq hx;have B2:=Qq ((hx.block (Qf B0.out)).trans B0.out);obtain⟨⟨r0,r1,r2⟩,⟨g0,g1,g2⟩,rl⟩:=Zc B2.out;clear hx;by_cases hz:ck=0
 case neg =>
  have zQ:(ck !=0)=true:=by simpa using hz
  have HS:=Qq (show Ma lg f most ⟨0,[],[]⟩ ck from .inl ⟨hz,rfl,.inr ⟨oO.out,.inl ⟨by rw [<-xV.out];exact hz,xV.out⟩⟩⟩);clear hz;go_wp2_with fail
  (try simp only [Exit.inBlock,Exit.then])
  refine bodyPost_ret (Vk Tryz.results32 _ _ rfl (Ze (Yx B2.out _ _ _)) Tryz.underlying26 rfl (by kernel_rfl)) rfl ?_;exact La rfl rfl (Yv (X0.out.trans S2.out) xT.out _ _ _) HS.out
 subst hz;clear r0 r1 r2 g0 g1 g2 rl;go_wp2_with fail;refine(Na _ f _ (HF.out.ext (X0.out.trans S2.out))).mono ?_;rintro e w3 ⟨rfl,hx⟩;have S3:=Qq (S2.out.trans hx);have B3:=Qq ((S3.out.block (Qf B0.out)).trans B0.out);obtain⟨⟨r0,r1,r2⟩,⟨g0,g1,g2⟩,rl⟩:=Zc B3.out;obtain⟨wB,xP⟩:=Mk f;clear hx wB;cases hsb:Js (Jm f) 15
 ·rw [hsb]at xP;have HS:=Qq (show Ma lg f most ⟨0,[],[]⟩ 10 from .inl ⟨by decide,rfl,.inr ⟨oO.out,.inr ⟨xV.out.symm,.inl ⟨hsb,rfl⟩⟩⟩⟩);clear hsb;go_wp2_with fail
  (try simp only [Exit.inBlock,Exit.then])
  refine bodyPost_ret (Vk Tryz.results32 _ _ rfl (Ze (Yx B3.out _ _ _)) Tryz.underlying26 rfl (by kernel_rfl)) rfl ?_;exact La rfl rfl (Yv (X0.out.trans S3.out) xT.out _ _ _) HS.out
 rw [hsb]at xP;have cY:=Qq hsb;clear hsb;by_cases XY:most < 1\/64 < most
 ·have HS:=Qq (show Ma lg f most ⟨0,[],[]⟩ 2 from .inl ⟨by decide,rfl,.inr ⟨oO.out,.inr ⟨xV.out.symm,.inr ⟨cY.out,.inl ⟨XY,rfl⟩⟩⟩⟩⟩);have qG:most < 1\/(¬most < 1/\64 < most):=by omega
  clear XY;rcases qG with m1|⟨m1,m2⟩ <;>
  ·go_wp2_with fail
   (try simp only [Exit.inBlock,Exit.then])
   refine bodyPost_ret (Vk Tryz.results32 _ _ rfl (Ze (Yx B3.out _ _ _)) Tryz.underlying26 rfl (by kernel_rfl)) rfl ?_;exact La rfl rfl (Yv (X0.out.trans S3.out) xT.out _ _ _) HS.out
 have m1:¬most < 1:=fun h=>XY (.inl h)
 have m2:¬64 < most:=fun h=>XY (.inr h)
 obtain⟨M,rfl⟩:=Int.eq_ofNat_of_zero_le (show 0<=most by omega);have hM1:1<=M:=by omega
 have EX:M<=64:=by omega
 have sN:=Qq (show 1<=((M:Nat):Int)/\((M:Nat):Int)<=64 by omega);have hh:=(Jf xV.out.symm).2.2.2;have vH:=Nb (Qg f) 0 hh (by decide);have mN:=Sg (Qg f) 0 hh (by decide);obtain⟨am,eZ⟩:∃x,x=Jr (Qg f):=⟨_,rfl⟩;obtain⟨fm,oE⟩:∃x,x=Yy (Qg f):=⟨_,rfl⟩;rw [show(Qg f).foldl agS 0=am from eZ.symm]at vH;rw [show(Qg f).foldl faS 0=fm from oE.symm]at mN;have SR:=Qq eZ;have hG:=Qq oE;have uU:IntKind.u64.wrap (am:Int)=(am:Int):=by rw [IntKind.wrap_u64];omega
 have lQ:IntKind.u64.wrap (fm:Int)=(fm:Int):=by rw [IntKind.wrap_u64];omega
 have mV:=Qjx vH;have kY:=Qjx mN;have hO:=Qq (show am < 256 by omega);have lH:=Qq (show fm < 256 by omega);clear XY hh eZ oE vH mN r0 r1 r2 g0 g1 g2 rl;go_wp2_with fail;refine(En _ f _ (HF.out.ext (X0.out.trans S3.out)) xV.out.symm).mono ?_;rintro e w5 ⟨rfl,hx⟩;rw [<-SR.out];have S5:=Qq (S3.out.trans hx);clear hx;go_wp2_with fail;refine(Qjf am hO.out _).mono ?_;rintro e w6 ⟨rfl,rfl⟩;go_wp2_with fail;refine(Of _ f _ (HF.out.ext (X0.out.trans S5.out)) xV.out.symm).mono ?_;rintro e w7 ⟨rfl,hx⟩;rw [<-hG.out];have S7:=Qq (S5.out.trans hx);clear hx;go_wp2_with fail
 refine(Qjf fm lH.out _).mono ?_;rintro e w8 ⟨rfl,rfl⟩;obtain⟨A,hA⟩:∃z,z=Ya am:=⟨_,rfl⟩;obtain⟨V,hV⟩:∃z,z=Ya fm:=⟨_,rfl⟩;have RE:=Qq (show A=lsA f by rw [hA,SR.out];rfl);have FR:=Qq (show V=lsF f by rw [hV,hG.out];rfl);rw [<-hA]at mV⊢;rw [<-hV]at kY⊢;clear hA hV uU lQ;go_wp2_with fail;refine(Oe M A V EX mV kY _).mono ?_;rintro e w9 ⟨rfl,rfl⟩;have sW:=Qq (show Yk M A V=Yk ((M:Nat):Int).toNat (lsA f) (lsF f) by rw [Int.toNat_natCast,RE.out,FR.out]);have AF:=Qq (fun n (h:n<=M)=>Qa5 (a:=A) (v:=V) h);obtain⟨L,hL⟩:∃z,z=Yk M A V:=⟨_,rfl⟩;rw [<-hL]at sW AF⊢
 clear hL;have B7:=Qq ((S7.out.block (Qf B0.out)).trans B0.out);by_cases h12:12 < L
 ·have hq:(12:Int) < (L:Int):=by omega
  have HS:=Qq (show Ma lg f ((M:Nat):Int) ⟨0,[],[]⟩ 8 from .inl ⟨by decide,rfl,.inr ⟨oO.out,.inr ⟨xV.out.symm,.inr ⟨cY.out,.inr ⟨sN.out,.inl ⟨by rw [<-sW.out];exact h12,rfl⟩⟩⟩⟩⟩⟩);obtain⟨⟨r0,r1,r2⟩,⟨g0,g1,g2⟩,rl⟩:=Zc B7.out;clear h12;go_wp2_with fail
  (try simp only [Exit.inBlock,Exit.then])
  refine bodyPost_ret (Vk Tryz.results32 _ _ rfl (Ze (Yx B7.out _ _ _)) Tryz.underlying26 rfl (by kernel_rfl)) rfl ?_;exact La rfl rfl (Yv (X0.out.trans S7.out) xT.out _ _ _) HS.out
 have hq:¬(12:Int) < (L:Int):=by omega
 have fV:=Qq (show L<=12 by omega);clear h12;go_wp2_with fail;have PE:=Qq (show((M:Nat):Int).toNat=M from Int.toNat_natCast M);rw [PE.out]at sW;go_loopw [11] (fun v wr=>∃n:Nat,v=.int .i64 (n:Int)/\1<=n/\n<=M+1/\Hid (Ext W0 wr/\Ts lg f n 0)) (fun v _=>M+1 - (intOf v).toNat)
 case atStart=>exact⟨1,rfl,Nat.le_refl _,by omega,Qq ⟨S7.out,fun m j h1 h2=>by omega,fun j hj=>absurd hj (by omega)⟩⟩
 case round =>
  obtain⟨n,rfl,vR,hnM,zY⟩:=hrel;have HX:=Qq zY.out.1;have HN:=Qq zY.out.2;clear zY;by_cases zG:n<=M
  ·have yP:(n:Int)<=(M:Int):=by omega
   have yN:n<=64:=by omega
   have eK:Yk n A V<=12:=Qx (AF.out n zG) fV.out;have lD:=Qq (fun k W h=>Qzj n A V k W vR yN mV kY eK h);have YX:=Qq (show Yk n A V=Yk n (lsA f) (lsF f) by rw [RE.out,FR.out]);have jE:min (Yk n A V) 64=Yk n A V:=by omega
   have tF:2^Yk n A V<=4096:=show 2^Yk n A V<=2^12 from Nat.pow_le_pow_right (by decide) eK
   have xP:IntKind.i64.wrap ((2:Int)^Yk n A V)=((2^Yk n A V:Nat):Int):=Qng eK;have wB:wrap64 ((2:Int)^Yk n A V)=((2^Yk n A V:Nat):Int):=by
    rw [show(2:Int)^Yk n A V=((2^Yk n A V:Nat):Int) by simp];exact Hx (Nat.lt_of_le_of_lt tF (by decide))
   have uS:=Qq (Oe n A V yN mV kY);obtain⟨ln,JW⟩:∃z,z=Yk n A V:=⟨_,rfl⟩;rw [<-JW]at lD YX jE tF wB xP uS eK;obtain⟨P,hP⟩:∃z,z=2^ln:=⟨_,rfl⟩;rw [<-hP]at lD tF wB xP;have HP:=Qq (show P=2^Yk n (lsA f) (lsF f) by rw [hP,YX.out]);clear JW hP;go_wp2_with fail;refine(uS.out _).mono ?_;rintro e w2 ⟨rfl,rfl⟩;go_wp2_with fail;go_loopw [60] (fun v wr=>∃k:Nat,v=.int .i64 (k:Int)/\k<=P/\Hid (Ext W0 wr/\Ts lg f n k)) (fun v _=>P - (intOf v).toNat)
   case atStart=>exact⟨0,rfl,Nat.zero_le _,Qq ⟨HX.out,HN.out⟩⟩
   case round =>
    clear HX HN;obtain⟨k,rfl,hkP,zY⟩:=hrel;have HX:=Qq zY.out.1;have HN:=Qq zY.out.2;clear zY;by_cases wO:k < P
    ·have wM:(k:Int) < (P:Int):=Int.ofNat_lt.2 wO;go_wp2_with fail;refine(lD.out k _ wO).mono ?_;rintro e w3 ⟨u,rfl,hf,hx⟩;have bU:=Qq hf;have zC:=Qq hx;obtain⟨_,_,hu,⟨A1,c1,kJ,_⟩,⟨A2,c2,mH,_⟩⟩:=hf.here;subst hu kJ mH;obtain⟨dr,aH⟩:∃z,z=Fg n A V k:=⟨_,rfl⟩;have mE:=Qq (show dr=Fg n (lsA f) (lsF f) k by rw [aH,RE.out,FR.out]);have JB:=Qq (show dr.ok by rw [aH];exact Qq5 (Qcx vR yN mV kY));rw [<-aH]at bU⊢;obtain⟨d1,qN⟩:∃z,z=dr.val.length:=⟨_,rfl⟩;obtain⟨d2,rD⟩:∃z,z=dr.rel.length:=⟨_,rfl⟩;obtain⟨d0,mO⟩:∃z,z=dr.n:=⟨_,rfl⟩;rw [<-mO,<-qN,<-rD]at bU⊢;obtain⟨w5,oQ⟩:∃z,z=w3.alloc (.cells #[.int .i64 d0,.slice A1 d1 c1,.slice A2 d2 c2] 26):=⟨_,rfl⟩
     have yE:=Qq (show Ext w3 w5 by rw [oQ];exact Qz.alloc _);have lN:=Qq (show w5.heap[w3.heap.size]?=some (.cells #[.int .i64 d0,.slice A1 d1 c1,.slice A2 d2 c2] 26 (0,0)) by rw [oQ];exact heap_alloc_new _ _);clear hf hx aH mO qN rD;go_upto_region 20 with(fail);rw [<-oQ];obtain⟨xb,wQ⟩:∃z,z=w3.heap.size:=⟨_,rfl⟩;rw [<-wQ]at lN⊢;clear oQ wQ;obtain⟨e0,e1,e2,el⟩:=Zt lN.out;go_wp2_with fail;refine(Ro lg _ _ f dr 0 _ (HT.out.ext (X0.out.trans (HX.out.trans (zC.out.trans yE.out)))) (HF.out.ext (X0.out.trans (HX.out.trans (zC.out.trans yE.out)))) (bU.out _ (Yp.of_ext yE.out)) JB.out).mono ?_
     rintro e w4 ⟨rfl,yD⟩;have yI:=Qq (HX.out.trans (zC.out.trans (yE.out.trans yD)));have cC:=Qq ((yD.block (Qf lN.out)).trans lN.out);have SM:=Qq (bU.out.next (X':=fun q=>q < wr.heap.size) (Yp.of_ext (yE.out.trans yD)) (fun _ _ h=>h));clear yD e0 e1 e2 el;obtain⟨c0,mR⟩:∃z,z=cmN lg f dr 0:=⟨_,rfl⟩;have YZ:=Qq mR;rw [<-mR];clear mR;by_cases sD:c0=0
     ·subst sD;obtain⟨e0,e1,e2,el⟩:=Zt cC.out;have vX:=Qq ((yI.out.block (Qf B0.out)).trans B0.out);obtain⟨⟨r0,r1,r2⟩,⟨g0,g1,g2⟩,rl⟩:=Zc vX.out;have HS:=Qq (show Ma lg f ((M:Nat):Int) dr 0 from .inr ⟨rfl,oO.out,xV.out.symm,cY.out,sN.out,by rw [PE.out,<-sW.out];exact fV.out,n,k,vR,by rw [PE.out];exact zG,by rw [<-HP.out];exact wO,mE.out,YZ.out.symm,HN.out⟩);have I7:=Qq (show b < wr.heap.size from Qy (Qf B0.out) HX.out.size);have I6:=Qq (show w.heap.size<=wr.heap.size from Qx X0.out.size HX.out.size)
      have vB:=Qq (show Frz (fun q=>q < w.heap.size) (((w4.setCell ⟨b,0,none⟩ (.int .i64 d0)).setCell ⟨b,1,none⟩ (.slice A1 d1 c1)).setCell ⟨b,2,none⟩ (.slice A2 d2 c2)) (fun W=>MdV W (.agg #[.int .i64 d0,.slice A1 d1 c1,.slice A2 d2 c2]) dr)from
       SM.out.keep I6.out (by simp [World.setCell]) (fun q h1 _=>Kv (by have:=I7.out;omega) _ _ _))
      go_wp2_with fail
      (try simp only [Exit.inBlock,Exit.then])
      refine bodyPost_ret (Vk Tryz.results32 _ _ rfl (Ze (Yx vX.out _ _ _)) Tryz.underlying26 rfl (by kernel_rfl)) rfl ?_;exact⟨_,dr,0,rfl,HS.out,Yv (X0.out.trans yI.out) xT.out _ _ _,vB.out⟩
     have zQ:(c0==0)=false:=by rw [beq_eq_false_iff_ne];exact sD
     have zA:=Qq (HN.out.step (by rw [<-mE.out,<-YZ.out];exact sD));clear sD;go_wp2_with fail;go_roundw
     case rel=>exact⟨k+1,by go_num,wO,Qq ⟨yI.out,zA.out⟩⟩
     case measure=>simp [intOf] <;> omega
    obtain rfl:P=k:=Nat.le_antisymm (Nat.le_of_not_lt wO) hkP;have qV:=Qq (show Ts lg f (n+1) 0 from by have:=HN.out;rw [HP.out]at this;exact this.turn);clear wO;go_wp2_with fail;go_roundw
    case rel=>exact⟨n+1,by go_num,by omega,by omega,Qq ⟨HX.out,qV.out⟩⟩
    case measure=>simp [intOf] <;> omega
  obtain rfl:n=M+1:=by omega
  have HS:=Qq (show Ma lg f ((M:Nat):Int) ⟨0,[],[]⟩ 6 from .inl ⟨by decide,rfl,.inr ⟨oO.out,.inr ⟨xV.out.symm,.inr ⟨cY.out,.inr ⟨sN.out,.inr ⟨by rw [PE.out,<-sW.out];exact fV.out,rfl,by rw [PE.out];exact HN.out⟩⟩⟩⟩⟩⟩);have vX:=Qq ((HX.out.block (Qf B0.out)).trans B0.out);obtain⟨⟨r0,r1,r2⟩,⟨g0,g1,g2⟩,rl⟩:=Zc vX.out;have yP:¬(((M+1:Nat):Int)<=(M:Int)):=by omega
  go_wp2_with fail
  (try simp only [Exit.inBlock,Exit.then])
  refine bodyPost_ret (Vk Tryz.results32 _ _ rfl (Ze (Yx vX.out _ _ _)) Tryz.underlying26 rfl (by kernel_rfl)) rfl ?_;exact La rfl rfl (Yv (X0.out.trans HX.out) xT.out _ _ _) HS.out
end Go.Proofs.YtkmclcmnoicagaaGreatDoor
