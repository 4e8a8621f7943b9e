/- The program's Generated. -/
import Derived.Test.YtkmclcmnoicagaaGreatDoorH29
import Derived.Test.YtkmclcmnoicagaaGreatDoorH30
namespace Go.Proofs.YtkmclcmnoicagaaGreatDoor
set_option maxRecDepth 100000
set_option maxHeartbeats 128000000
open Go.RowKit
theorem Cn.lowB {md:Md} {fr todo out:Nat}(h:Cn md fr todo out)(zU:Qa md=0)(xM:Jr fr (Zk md.n.toNat)=true):∀i,out.testBit i=true->i < md.n.toNat :=
 h.least (fun i=>i < md.n.toNat) (fun i hi=>by
  have:=Je.1 xM i hi;rw [Vz,decide_eq_true_iff]at this;exact this) (fun a _ u _ v hv=>(Da zU a u v hv).2)
theorem Qbh(vm:Value)(md:Md)(fr:Nat)(w:World)(hT:Kb w)(hm:Jk w vm md)(zP:md.ok)(zU:Qa md=0)(xM:Jr fr (Zk md.n.toNat)=true)(hw:Qm fr):
 Calls Tryz.prog 80 #[vm,.int .u64 (fr:Int)] w fun e w'=>∃out:Nat,e=.returned (.tuple #[.int .u64 (out:Int),.int .i64 0])/\Ni md fr out/\Qm out/\Qg w w':=by
 have HM:=Qq hm;have zE:=Qq zP;have yD:=Qq zU;have wW:=Qq xM;have HW:=Qq hw;have HT:=Qq hT;obtain⟨wU,yZ,uR,_,wO,_,_⟩:=Zv zU;have qI:=Qq (show ∀r∈md.rel,r.length=md.n.toNat from fun r hr=>by have:=wO r hr;omega);obtain⟨vv,vr,rfl,⟨Av,cv,rfl,_⟩,hr⟩:=hm;obtain⟨Ar,cr,rfl,RS,oH,HR⟩:=Gj hr;obtain⟨N,rP⟩:=Int.eq_ofNat_of_zero_le (show 0<=md.n by omega);have qG:md.n.toNat=N:=by rw [rP];exact Int.toNat_natCast N
 have yC:N<=64:=by omega
 have vJ:=Qq qG;rw [rP]at HM⊢;have rC:Zl fr (Zk N)=0:=by
  have:=Rr (a:=fr) (b:=Zk N);rw [<-qG,xM]at this;rw [<-qG]
  simpa using this
 have yH:=Yg hw (Yk yC);rw [rC]at yH;obtain⟨nr,cR⟩:∃z,z=md.rel.length:=⟨_,rfl⟩;have mG:=Qq cR;have BB:nr<=4:=by rw [cR];exact uR
 obtain⟨W0,zK⟩:∃W,W=w.alloc (.cells #[.int .i64 (N:Int),.slice Av md.val.length cv,.slice Ar md.rel.length cr] 26):=⟨_,rfl⟩;have X0:=Qq (show Qg w W0 by rw [zK];exact Qz.alloc _);obtain⟨b,hb⟩:∃b,b=w.heap.size:=⟨_,rfl⟩;have B0:=Qq (show W0.heap[b]?=some (.cells #[.int .i64 (N:Int),.slice Av md.val.length cv,.slice Ar md.rel.length cr] 26 (0,0)) by rw [zK,hb];exact heap_alloc_new _ _);rw [<-cR]at B0;clear hT zP zU xM hw wU yZ hr rP qG rC wO;go_enter Tryz.func80,Tryz.ntmps80;go_upto_region 1 with(fail);rw [<-zK,<-hb,<-cR];clear zK hb cR;obtain⟨e0,e1,e2,el⟩:=Zy B0.out;go_wp2_with fail
 refine(Xa _ md _ (by have:=HM.out.ext X0.out;rw [<-mG.out]at this;exact this) zE.out).mono ?_;rintro e w1 ⟨rfl,hx⟩;rw [yD.out];have zO:=Qq hx;obtain⟨e0,e1,e2,el⟩:=Zy ((hx.block (Qn B0.out)).trans B0.out);clear hx;go_wp2_with fail;refine(Qq7 N yC _).mono ?_;rintro e w2 ⟨rfl,rfl⟩;go_wp2_with fail;clear e0 e1 e2 el yH;go_loopw [7,8] (fun vo vt wr=>∃out todo:Nat,vo=.int .u64 (out:Int)/\vt=.int .u64 (todo:Int)/\Hid (Cn md fr todo out/\Qm out/\Qm todo/\Qg w1 wr)) (fun vo vt _=>Qqp (intOf vt).toNat (intOf vo).toNat)
 case atStart=>exact⟨fr,fr,rfl,rfl,Qq ⟨Cn.start _ _,HW.out,HW.out,Qz⟩⟩
 case round =>
  obtain⟨out,todo,rfl,rfl,zY⟩:=hrel;obtain⟨fO,cM,WG,hx⟩:=zY.out;have JM:=Qq fO;have kK:=Qq cM;have UD:=Qq WG;have vN:=Qq hx;clear zY fO cM WG hx;by_cases h0:todo=0
  ·subst h0;have zQ:(((0:Nat):Int) !=0)=false:=by simp
   have HX:=Qq (X0.out.trans (zO.out.trans vN.out));go_wp2_with fail;go_ret2;exact⟨out,rfl,JM.out.done,kK.out,HX.out⟩
  have zQ:((todo:Int) !=0)=true:=by simpa using h0
  have H0:=Qq h0;have aM:=Qq (JM.out.enter UD.out h0);have bL:=Qq (Qcf UD.out h0 JM.out.tod);have rN:=JM.out.lowB yD.out wW.out _ aM.out.here;obtain⟨u,hu⟩:∃u,u=Dt todo:=⟨_,rfl⟩;rw [<-hu,vJ.out]at rN;rw [<-hu]at aM;have C9:=Qq hu;have tI:IntKind.u64.wrap ((todo:Int) - 1)=((todo - 1:Nat):Int):=by
   have:=UD.out;unfold Qm at this;rw [IntKind.wrap_u64];omega
  have yH:bits .and .u64 (todo:Int) ((todo - 1:Nat):Int)=((todo&&&(todo - 1):Nat):Int):=Xk UD.out (Nat.lt_of_le_of_lt (Nat.sub_le _ _) UD.out);obtain⟨td,AJ⟩:∃z,z=todo&&&(todo - 1):=⟨_,rfl⟩;have NO:=Qq (show Qm td by rw [AJ];exact Nat.lt_of_le_of_lt Nat.and_le_left UD.out);rw [<-AJ]at yH aM bL;clear h0 hu AJ;go_wp2_with fail;refine(Qrg todo UD.out H0.out _ (HT.out.ext (X0.out.trans (zO.out.trans vN.out)))).mono ?_;rintro e w3 ⟨rfl,rfl⟩;rw [<-C9.out];obtain⟨e0,e1,e2,el⟩:=Zy (((zO.out.trans vN.out).block (Qn B0.out)).trans B0.out);obtain⟨wa,xC⟩:∃v,v=w3:=⟨_,rfl⟩
  subst xC;go_wp2_with fail;clear e0 e1 e2 el tI yH zQ;go_loopw [7,8,36] (fun vo vt vi wr=>∃o2 t2 i:Nat,vo=.int .u64 (o2:Int)/\vt=.int .u64 (t2:Int)/\vi=.int .i64 (i:Int)/\i<=nr/\Hid (Qvc md fr u i t2 o2/\Qm o2/\Qm t2/\Qg wa wr/\Qqp t2 o2 < Qqp todo out)) (fun _ _ vi _=>nr - (intOf vi).toNat)
  case atStart=>exact⟨out,td,0,rfl,rfl,rfl,Nat.zero_le _,Qq ⟨aM.out,kK.out,NO.out,Qz,bL.out⟩⟩
  case round =>
   clear aM bL NO;obtain⟨o2,t2,i,rfl,rfl,rfl,hi,zY⟩:=hrel;obtain⟨YY,cM,WG,hx,rH⟩:=zY.out;have V0:=Qq YY;have aC:=Qq cM;have UC:=Qq WG;have wY:=Qq hx;have rW:=Qq rH;clear zY YY cM WG hx rH;by_cases yW:i < nr
   ·have wV:(i:Int) < (nr:Int):=by omega
    obtain⟨ad,ur,rfl,zV,yU,KD⟩:=HR.out i (by rw [<-mG.out];exact yW);have oH:md.rel.getD i []∈md.rel:=by rw [Qk,List.getElem?_eq_getElem (by rw [<-mG.out];exact yW)];exact List.getElem_mem _
    have wP:(md.rel.getD i []).length=N:=by rw [<-vJ.out];exact qI.out _ oH
    obtain⟨Au,cu,rfl,_,_,HU⟩:=Vf KD;rw [wP]at yU HU;obtain⟨ud,rfl,wF,sO⟩:=HU.out u rN;have CV:(u:Int) < (N:Int):=by omega
    have tG:=Qq (X0.out.trans (zO.out.trans (vN.out.trans wY.out)));have a0:=(tG.out.cell (p:=ad.add i) (Qj zV)).trans yU;have al:(ad.add i).block < wr.heap.size:=by rw [Qr];exact Qy zV tG.out.size
    have u0:=(tG.out.cell (p:=ud.add u) (Qj wF)).trans sO;have ul:(ud.add u).block < wr.heap.size:=by rw [Qr];exact Qy wF tG.out.size
    have zA:=Qq (V0.out.step (by rw [<-mG.out];exact yW));have NR:=Qq (Nat.lt_of_le_of_lt (Qeo (todo:=t2) (out:=o2) (r:=(md.rel.getD i []).getD u 0)) rW.out);have yY:=Qq (show Qm ((md.rel.getD i []).getD u 0)from Yx (zE.out.rel _ oH) u);obtain⟨x,hx⟩:∃x,x=(md.rel.getD i []).getD u 0:=⟨_,rfl⟩;rw [<-hx]at u0 zA NR yY;have AY:=Yg yY.out aC.out;have QX:=Qq (Uy (b:=o2) yY.out);obtain⟨dx,MJ⟩:∃z,z=Zl x o2:=⟨_,rfl⟩;rw [<-MJ]at AY zA NR QX;have AX:=Xq UC.out QX.out;have AW:=Xq aC.out yY.out;have UE:=Qq (Qq4 UC.out QX.out);have XM:=Qq (Qq4 aC.out yY.out)
    obtain⟨t3,K8⟩:∃z,z=t2|||dx:=⟨_,rfl⟩;obtain⟨o3,QC⟩:∃z,z=o2|||x:=⟨_,rfl⟩;rw [<-K8]at AX zA NR UE;rw [<-QC]at AW zA NR XM;clear yU sO hx wP KD oH zV wF MJ K8 QC;go_wp2_with fail;go_roundw
    case rel=>exact⟨o3,t3,i+1,rfl,rfl,by go_num,by omega,Qq ⟨zA.out,XM.out,UE.out,wY.out,NR.out⟩⟩
    case measure=>simp [intOf];omega
   obtain rfl:nr=i:=by omega
   have UW:=Qq (show Cn md fr t2 o2 by have:=V0.out;rw [mG.out]at this;exact this.leave);go_wp2_with fail;go_roundw
   case rel=>exact⟨o2,t2,rfl,rfl,Qq ⟨UW.out,aC.out,UC.out,vN.out.trans wY.out⟩⟩
   case measure =>
    show Qqp ((t2:Nat):Int).toNat ((o2:Nat):Int).toNat < Qqp ((todo:Nat):Int).toNat ((out:Nat):Int).toNat;simp only [Int.toNat_natCast];exact rW.out
theorem Qvl(vm:Value)(md:Md)(s:Nat)(w:World)(hs:Qm s)(hT:Kb w)(hm:Jk w vm md)(zP:md.ok)(hE:Gw md s=0):
 Calls Tryz.prog 36 #[vm,.int .u64 (s:Int)] w fun e w'=>∃vr vl,e=.returned (.tuple #[vr,vl,.int .i64 0])/\Qg w w'/\Vs (fun k=>k < w.heap.size) w' (fun W=>Jk W vr (Vj md (Za s))/\Mk W vl (Za s)):=by
 refine(Qn2 vm md s w hs hT hm zP).mono ?_;rintro e w1 ⟨vr,vl,rfl,hx,hf⟩;unfold Cw Ce at hf;rw [if_pos hE,if_pos hE]at hf;exact⟨vr,vl,by rw [hE],hx,hf⟩
theorem Zqz {md:Md} {gone k:Nat}(zU:Qa md=0)(hk:k < md.n.toNat)(zQ:gone≠k):Gw md (Zl (Zk md.n.toNat) (2^gone))=0:=by
 have hs:Jr (Zl (Zk md.n.toNat) (2^gone)) (Zk md.n.toNat)=true:=Je.2 fun i hi=>by
  rw [Rs,Bool.and_eq_true]at hi;rw [Vz];exact hi.1
 have h0:Zl (Zk md.n.toNat) (2^gone)≠0:=fun e=>by
  have h1:=Rs md.n.toNat gone k;rw [e,Nat.zero_testBit,decide_eq_true hk,decide_eq_false zQ]at h1;cases h1
 unfold Gw;rw [if_neg (by rw [zU];simp),if_neg (by rw [hs];simp),if_neg h0]
theorem Vs.keep {B B':Nat} {w w':World} {P:World->Prop}(h:Vs (fun k=>k < B) w P)(hb:B'<=B)(hs:w.heap.size<=w'.heap.size)(hk:∀k,B<=k->k < w.heap.size->w'.heap[k]?=w.heap[k]?):Vs (fun k=>k < B') w' P :=
 h.next (X':=fun k=>k < B) ⟨hs,fun k h1 h2=>hk k (by omega) h2⟩ (fun _ _ h=>h)|>.next (Yv.of_ext Qz) (fun k _ h=>by omega)
theorem Qsd(vm:Value)(md:Md)(gone k:Nat)(w:World)(hT:Kb w)(hm:Jk w vm md)(zP:md.ok)(zU:Qa md=0)(hg:gone < md.n.toNat)(hk:k < md.n.toNat)(zQ:gone≠k):
 Calls Tryz.prog 82 #[vm,.int .i64 (gone:Int),.int .i64 (k:Int)] w fun e w'=>∃u,e=.returned (.tuple #[u,.int .i64 ((Va k gone:Nat):Int)])/\Qg w w'/\Vs (fun k=>k < w.heap.size) w' (fun W=>Jk W u (Vo md gone)):=by
 have HM:=Qq hm;have zE:=Qq zP;have HT:=Qq hT;have HE:=Qq (Zqz zU hk zQ);obtain⟨wU,yZ,_⟩:=Zv zU;obtain⟨vv,vr,rfl,⟨Av,cv,rfl,_⟩,⟨Ar,cr,rfl,_⟩⟩:=hm;obtain⟨N,rP⟩:=Int.eq_ofNat_of_zero_le (show 0<=md.n by omega);have qG:md.n.toNat=N:=by rw [rP];exact Int.toNat_natCast N
 have yC:N<=64:=by omega
 have vJ:=Qq qG;rw [rP]at HM⊢;have ME:gone < 64:=by omega
 have vD:(gone:Int) < 64:=by omega
 have hmg:min gone 64=gone:=by omega
 have K5:=Sg ME;have yH:=Yg (Yk yC) (Tl ME);obtain⟨s,hs⟩:∃s,s=Zl (Zk N) (2^gone):=⟨_,rfl⟩;have rD:=Qq (show Qm s by rw [hs];exact Uy (Yk yC));have iD:=Qq (show Vo md gone=Vj md (Za s) by unfold Vo;rw [qG,<-hs]);rw [qG,<-hs]at HE;rw [<-hs]at yH;obtain⟨sh,fK⟩:∃z,z=Va k gone:=⟨_,rfl⟩;have XI:=Qq fK;rw [<-fK];obtain⟨aw,XE⟩:∃z,z=Zk N:=⟨_,rfl⟩;obtain⟨tg,AI⟩:∃z,z=2^gone:=⟨_,rfl⟩;rw [<-XE,<-AI]at yH;rw [<-AI]at K5;obtain⟨W0,zK⟩:∃W,W=(w.alloc (.cells #[.int .i64 (N:Int),.slice Av md.val.length cv,.slice Ar md.rel.length cr] 26)).alloc (.cells #[.int .i64 0,.slice none 0 0,.slice none 0 0] 26):=⟨_,rfl⟩
 have X0:=Qq (show Qg w W0 by rw [zK];exact(Qz.alloc _).alloc _);obtain⟨b,hb⟩:∃b,b=w.heap.size:=⟨_,rfl⟩;have B0:=Qq (show W0.heap[b]?=some (.cells #[.int .i64 (N:Int),.slice Av md.val.length cv,.slice Ar md.rel.length cr] 26 (0,0)) by rw [zK,hb];exact((Qz.alloc _).block (by simp)).trans (heap_alloc_new _ _));have B1:=Qq (show W0.heap[b+1]?=some (.cells #[.int .i64 0,.slice none 0 0,.slice none 0 0] 26 (0,0)) by
  have h1:=heap_alloc_new (w.alloc (.cells #[.int .i64 (N:Int),.slice Av md.val.length cv,.slice Ar md.rel.length cr] 26)) (.cells #[.int .i64 0,.slice none 0 0,.slice none 0 0] 26);rw [zK,hb]
  simpa using h1)
 have yB:=Qq (show w.heap.size<=b+1 by omega);have xL:W0.heap.size<=W0.heap.size:=Nat.le_refl _;have aP:=Qq (show b+1 < W0.heap.size from Qn B1.out);obtain⟨e0,e1,e2,el⟩:=Zy B0.out;have qV:k < 64:=by omega
 clear hT zP zU hg hk zQ wU yZ rP qG hs fK AI;by_cases uH:N < 64
 case' pos =>
  have DR:(N:Int) < 64:=by omega
  have cU:min N 64=N:=by omega
  have xC:=Th uH;rw [show((2^N - 1:Nat):Int)=(aw:Int) by rw [XE];rfl]at xC;clear uH XE
 case' neg =>
  have DR:¬(N:Int) < 64:=by omega
  have MV:(18446744073709551615:Int)=(aw:Int):=by
   rw [XE,show N=64 by omega];rfl
  clear uH XE
 all_goals
  go_enter Tryz.func82,Tryz.ntmps82;go_upto_region 1 with(fail);rw [<-zK,<-hb];clear zK hb;go_upto_region 4 with(fail)
  try rw [MV]
  try clear MV
  refine wp_region_held_drew (S:=fun w'=>w'.cell? (⟨b,0,none⟩)=some (.int .i64 (N:Int))/\w'.cell? (⟨b,1,none⟩)=some (.slice Av md.val.length cv)/\w'.cell? (⟨b,2,none⟩)=some (.slice Ar md.rel.length cr)) (by kernel_rfl) ⟨xd el e0,xd el e1,xd el e2⟩ (fun zZ=> ?_);refine tk 0 zZ ?_;refine tk 1 zZ ?_;refine tk 2 zZ ?_;refine tk 3 zZ ?_;refine tk 4 zZ ?_;refine wpAnyH_ready (rs:= [5,10]) (by kernel_rfl) (by simp) ?_;refine AllReadyH.cons rfl (fun K hK=> ?_) (AllReadyH.cons rfl (fun K hK=> ?_) AllReadyH.nil);have m10:=True.intro
  rotate_left
  go_simp;refine hK.out _ _ ⟨xd el e0,xd el e1,xd el e2⟩ (fun zZ=> ?_);clear hK K;refine Qd ?_;refine wpAnyH_ready (rs:= [5]) (by kernel_rfl) (by simp) ?_;refine AllReadyH.cons rfl (fun K hK=> ?_) AllReadyH.nil
  all_goals
   go_simp;refine(Qvl _ md s _ rD.out (HT.out.ext (X0.out.trans xv)) (HM.out.ext (X0.out.trans xv)) zE.out HE.out).mono ?_;rintro e w6 ⟨vr,vl,rfl,yI,xQ⟩;have hx:Qg W0 w6:=Qg.trans xv yI;have oD:=Qq (xQ.keep (B':=W0.heap.size) (Qg.size (a:=W0) xv) (Nat.le_refl _) (fun _ _ _=>rfl));have gC:=Qq xQ;have gR:=Qq hx;obtain⟨⟨u0,u1,hu,⟨A1,c1,YK,_⟩,⟨A2,c2,bX,_⟩⟩,⟨A3,c3,KC,_⟩⟩:=xQ.here;subst hu YK bX KC;obtain⟨l1,mU⟩:∃z,z=(Vj md (Za s)).n:=⟨_,rfl⟩;obtain⟨l2,qN⟩:∃z,z=(Vj md (Za s)).val.length:=⟨_,rfl⟩;obtain⟨l3,oK⟩:∃z,z=(Vj md (Za s)).rel.length:=⟨_,rfl⟩;rw [<-mU,<-qN,<-oK]at oD gC⊢
   first
   |have wC:Hid (w6.heap[W0.heap.size]?=some (.cells #[.int .i64 0,.slice none 0 0,.slice none 0 0] 26 (0,0))):=Qq ((yI.block (k:=W0.heap.size) (by simp)).trans (heap_alloc_new W0.drew (.cells #[.int .i64 0,.slice none 0 0,.slice none 0 0] 26)))
    obtain⟨⟨q0,q1,q2⟩,⟨f0,f1,f2⟩,ql⟩:=Zc wC.out
   |skip
   have hbz:=aP.out;have mP:=hx.size;clear xQ mU qN oK yI;go_wp2_with fail;refine hK.out _ _ ⟨xd el e0,xd el e1,xd el e2⟩ (fun zZ=> ?_);clear hK K;refine Qd ?_;refine tk 6 zZ ?_;refine tk 7 zZ ?_;refine tk 8 zZ ?_;refine tk 9 zZ ?_
   try
    clear m10;refine wpAnyH_ready (rs:= [10]) (by kernel_rfl) (by simp) ?_;refine AllReadyH.cons rfl (fun K hK=> ?_) AllReadyH.nil;go_simp;refine hK.out _ _ ⟨xd el e0,xd el e1,xd el e2⟩ (fun zZ=> ?_);clear hK K;refine Qd ?_
   refine wpAnyH_ready (rs:= [11]) (by kernel_rfl) (by simp) ?_;refine AllReadyH.cons rfl (fun K hK=> ?_) AllReadyH.nil;go_simp;refine hK.out _ _ ⟨xd el e0,xd el e1,xd el e2⟩ (fun zZ=> ?_);clear hK K;refine Qd ?_;refine tk 12 zZ ?_;refine tk 13 zZ ?_;refine wpAnyH_done (by kernel_rfl) ?_ _
   first
   |obtain⟨xb,rR⟩:∃z,z=W0.heap.size:=⟨_,rfl⟩
    obtain⟨w8,kZ⟩:∃z,z=(((w6.setCell ⟨W0.heap.size,0,none⟩ (.int .i64 l1)).setCell ⟨W0.heap.size,1,none⟩ (.slice A1 l2 c1)).setCell ⟨W0.heap.size,2,none⟩ (.slice A2 l3 c2)):=⟨_,rfl⟩;have vE:=wC.out;have V7:=Qq (show w8.heap[xb]?=some (.cells #[.int .i64 l1,.slice A1 l2 c1,.slice A2 l3 c2] 26 (0,0)) by rw [kZ,rR];exact Yn vE _ _ _);have X8:=Qq (show Qg W0 w8 by rw [kZ];exact Yb gR.out xL _ _ _);have GK:=Qq (show Vs (fun k=>k < W0.heap.size) w8 (fun W=>Jk W (.agg #[.int .i64 l1,.slice A1 l2 c1,.slice A2 l3 c2]) (Vj md (Za s))) by rw [kZ];exact fun W hW=>(gC.out.keep (B':=W0.heap.size) (by simp) (by simp [World.setCell]) (fun k h1 h2=>Kx (by simp at h1;omega) _ _ _) W hW).1)
    rw [<-kZ,<-rR];clear kZ rR
   |obtain⟨xb,rR⟩:∃z,z=w6.heap.size:=⟨_,rfl⟩
    obtain⟨w8,kZ⟩:∃z,z=w6.alloc (.cells #[.int .i64 l1,.slice A1 l2 c1,.slice A2 l3 c2] 26):=⟨_,rfl⟩;have V7:=Qq (show w8.heap[xb]?=some (.cells #[.int .i64 l1,.slice A1 l2 c1,.slice A2 l3 c2] 26 (0,0)) by rw [kZ,rR];exact heap_alloc_new _ _);have X8:=Qq (show Qg W0 w8 by rw [kZ];exact gR.out.alloc _);have GK:=Qq (show Vs (fun k=>k < W0.heap.size) w8 (fun W=>Jk W (.agg #[.int .i64 l1,.slice A1 l2 c1,.slice A2 l3 c2]) (Vj md (Za s))) by rw [kZ];exact fun W hW=>(gC.out.keep (B':=W0.heap.size) (by simp) (by simp) (fun k h1 h2=>(Qz.alloc _).block h2) W hW).1);rw [<-kZ,<-rR];clear kZ rR
   obtain⟨n0,n1,n2,nl⟩:=Zy V7.out;have wD:=Qq ((X8.out.block (Qn B1.out)).trans B1.out);obtain⟨⟨r0,r1,r2⟩,⟨g0,g1,g2⟩,rl⟩:=Zc wD.out;have OX:=Qq (show Vs (fun k=>k < w.heap.size) (((w8.setCell ⟨b+1,0,none⟩ (.int .i64 l1)).setCell ⟨b+1,1,none⟩ (.slice A1 l2 c1)).setCell ⟨b+1,2,none⟩ (.slice A2 l3 c2)) (fun W=>Jk W (.agg #[.int .i64 l1,.slice A1 l2 c1,.slice A2 l3 c2]) (Vj md (Za s)))from GK.out.keep X0.out.size (by simp [World.setCell]) (fun k h1 h2=>Kx (by omega) _ _ _));clear yH K5 zZ gC GK hbz;by_cases QF:gone < k
   case' pos =>
    have BL:(gone:Int) < (k:Int):=by omega
    have vK:=Qq (show((sh:Nat):Int)=(k:Int) - 1 by rw [XI.out];unfold Va;rw [if_pos QF];omega);clear QF
   case' neg =>
    have BL:¬(gone:Int) < (k:Int):=by omega
    have vK:=Qq (show sh=k by rw [XI.out];unfold Va;rw [if_neg QF]);clear QF
   all_goals
    go_wp2_with fail
    (try simp only [Exit.inBlock,Exit.then])
    refine bodyPost_ret (Fz Tryz.results82 _ _ rfl (Jj (Yn wD.out _ _ _)) Tryz.underlying26 rfl (by kernel_rfl)) rfl ?_;exact⟨_,by rw [vK.out] <;> rfl,Yb (X0.out.trans X8.out) yB.out _ _ _,by rw [iD.out];exact OX.out⟩
theorem Zyt(vm v:Value)(md:Md)(f:List Nd)(k:Nat)(w:World)(hm:Jk w vm md)(zP:md.ok)(h:Yq w v f)(hc:Jz md f=0)(hk:k < md.n.toNat):
 Calls Tryz.prog 76 #[vm,.int .i64 (k:Int),v] w fun e w'=>e=.returned (.tuple #[.bool ((Nc md f).testBit k),.int .i64 0])/\Qg w w':=by
 have HM:=Qq hm;have HF:=Qq h;have zU:=(Vm hc).1;obtain⟨wU,yZ,_⟩:=Zv zU;have HS:=Qq (fun w hm h=>Qhc Qf9 vm v md f w hm zP h);rw [hc,if_pos rfl]at HS;have HB:=Qq (Bc (Nc md f) k (Qy (Qjb zU f) (Nw (by omega))));obtain⟨s,hs⟩:∃s,s=Nc md f:=⟨_,rfl⟩;obtain⟨n,hn⟩:∃n,n=md.n:=⟨_,rfl⟩;rw [<-hs]at HS HB⊢;obtain⟨vv,vr,rfl,⟨Av,cv,rfl,_⟩,⟨Ar,cr,rfl,_⟩⟩:=hm;rw [<-hn]at HM HS hk yZ⊢;have yV:(k:Int) < n:=by omega
 have wI:(k:Int) < 64:=by omega
 have vV:min k 64=k:=by omega
 have YV:¬(k:Int) < 0:=by omega
 have wV:¬n<=(k:Int):=by omega
 clear h zP hc hk zU wU yZ hs hn;go_enter Tryz.func76,Tryz.ntmps76;go_wp2_with fail;refine(HS.out _ (HM.out.ext ((Qg.refl w).alloc _)) (HF.out.ext ((Qg.refl w).alloc _))).mono ?_;rintro e w2 ⟨rfl,hx⟩;have HX:=Qq (((Qg.refl w).alloc _).trans hx);have c0:w2.cell? ⟨w.heap.size,0,none⟩=some (.int .i64 n):=(hx.cell (p:=⟨w.heap.size,0,none⟩) (by simp)).trans (by simp);have cl:w.heap.size < w2.heap.size:=Qy (by simp) hx.size;clear hx;go_wp2_with fail;go_ret2;exact⟨by rw [<-HB.out] <;> rfl,HX.out⟩
theorem Ow(lg:Int)(w:World):Calls Tryz.prog 75 #[.int .i64 lg] w fun e w'=>e=.returned (.bool (decide (0<=lg/\lg<=6)))/\w=w':=by
 obtain⟨lo,wH⟩:∃z,z=decide (0<=lg/\lg<=6):=⟨_,rfl⟩;have yB:=Qq wH;rw [<-wH];clear wH;by_cases h0:0<=lg
 ·by_cases h6:lg<=6
  ·have HD:=Qq (show lo=true by rw [yB.out];exact decide_eq_true ⟨h0,h6⟩);go_enter Tryz.func75,Tryz.ntmps75;go_wp2_with fail;go_ret;exact⟨by rw [HD.out] <;> rfl,rfl⟩
  have HD:=Qq (show lo=false by rw [yB.out];exact decide_eq_false fun h=>h6 h.2);go_enter Tryz.func75,Tryz.ntmps75;go_wp2_with fail;go_ret;exact⟨by rw [HD.out] <;> rfl,rfl⟩
 have HD:=Qq (show lo=false by rw [yB.out];exact decide_eq_false fun h=>h0 h.1);go_enter Tryz.func75,Tryz.ntmps75;go_wp2_with fail;go_ret;exact⟨by rw [HD.out] <;> rfl,rfl⟩
theorem Pf(lg:Int)(v vm:Value)(f:List Nd)(md:Md)(wd:Int)(w:World)(hT:Kb w)(h:Yq w v f)(hm:Jk w vm md)(zP:md.ok):
 Calls Tryz.prog 27 #[.int .i64 lg,v,vm,.int .i64 wd] w fun e w'=>e=.returned (.int .i64 (Xm lg f md wd))/\Qg w w':=by
 have HT:=Qq hT;have HM:=Qq hm;have HF:=Qq h;have zE:=Qq zP;obtain⟨vv,vr,rfl,⟨Av,cv,rfl,_⟩,⟨Ar,cr,rfl,_⟩⟩:=hm;obtain⟨n,hn⟩:∃n,n=md.n:=⟨_,rfl⟩;have HN:=Qq hn;rw [<-hn]at HM⊢;obtain⟨r,hr⟩:∃r,r=Xm lg f md wd:=⟨_,rfl⟩;have HR:=Qq hr;rw [<-hr];obtain⟨er,uK⟩:∃z,z=Jz md f:=⟨_,rfl⟩;have wK:=Qq uK;obtain⟨W0,zK⟩:∃W,W=w.alloc (.cells #[.int .i64 n,.slice Av md.val.length cv,.slice Ar md.rel.length cr] 26):=⟨_,rfl⟩;have X0:=Qq (show Qg w W0 by rw [zK];exact Qz.alloc _);have B0:=Qq (show W0.heap[w.heap.size]?=some (.cells #[.int .i64 n,.slice Av md.val.length cv,.slice Ar md.rel.length cr] 26 (0,0)) by rw [zK];exact heap_alloc_new _ _)
 obtain⟨b,hb⟩:∃b,b=w.heap.size:=⟨_,rfl⟩;rw [<-hb]at B0;clear hT h zP hn hr uK;obtain⟨lo,wH⟩:∃z,z=decide (0<=lg/\lg<=6):=⟨_,rfl⟩;have yB:=Qq wH;obtain⟨e0,e1,e2,el⟩:=Zy B0.out;go_enter Tryz.func27,Tryz.ntmps27;go_upto_region 1 with(fail);rw [<-zK,<-hb];clear zK hb;go_wp2_with fail;refine(Ow lg _).mono ?_;rintro e w1 ⟨rfl,rfl⟩;rw [<-wH];clear wH;cases lo
 ·have HZ:=Qq (show r=1 by
   have:=of_decide_eq_false yB.out.symm;rw [HR.out];unfold Xm;rw [if_pos (by omega)])
  go_wp2_with fail;go_ret;exact⟨by rw [HZ.out] <;> rfl,X0.out⟩
 have uI:=Qq (show r=if er≠0 then er else if wd < 0\/n<=wd then 2 else if Ib md lg=false then 12 else if(Nc md f).testBit wd.toNat=true then 0 else 11 by
  have:=of_decide_eq_true yB.out.symm;rw [HR.out];unfold Xm;rw [if_neg (by omega),<-wK.out,<-HN.out])
 clear HR yB;go_wp2_with fail;refine(Qf9 _ _ md f _ (HM.out.ext X0.out) zE.out (HF.out.ext X0.out)).mono ?_;rintro e w2 ⟨u,rfl,hx,hu⟩;rw [<-wK.out];have X2:=Qq (X0.out.trans hx);obtain⟨e0,e1,e2,el⟩:=Zy ((hx.block (Qn B0.out)).trans B0.out);have zT:=Qq hx;clear hx hu;by_cases hz:er=0
 case neg =>
  have HZ:=Qq (show r=er by rw [uI.out,if_pos hz]);have zQ:(er !=0)=true:=by simpa using hz
  clear hz uI;go_wp2_with fail;go_ret;exact⟨by rw [HZ.out] <;> rfl,X2.out⟩
 subst hz;rw [if_neg (by simp)]at uI;by_cases hw:wd < 0\/n<=wd
 ·have HZ:=Qq (show r=2 by rw [uI.out,if_pos hw]);clear uI;by_cases YI:wd < 0
  ·clear hw;go_wp2_with fail;go_ret;exact⟨by rw [HZ.out] <;> rfl,X2.out⟩
  have tI:n<=wd:=hw.resolve_left YI;clear hw;go_wp2_with fail;go_ret;exact⟨by rw [HZ.out] <;> rfl,X2.out⟩
 rw [if_neg hw]at uI;have YI:¬wd < 0:=fun h=>hw (.inl h)
 have tI:¬n<=wd:=fun h=>hw (.inr h)
 clear hw;obtain⟨k,rfl⟩:=Int.eq_ofNat_of_zero_le (show 0<=wd by omega);rw [Int.toNat_natCast]at uI;have HK:=Qq (show k < md.n.toNat by have:=HN.out;omega);go_wp2_with fail;refine(Zql _ md lg _ ((HT.out.ext X2.out)) (HM.out.ext X2.out) zE.out).mono ?_;rintro e w3 ⟨rfl,hx⟩;have X3:=Qq (X2.out.trans hx);obtain⟨e0,e1,e2,el⟩:=Zy (((zT.out.trans hx).block (Qn B0.out)).trans B0.out);clear hx;obtain⟨g,hg⟩:∃g,g=Ib md lg:=⟨_,rfl⟩;rw [<-hg]at uI⊢;clear hg;cases g
 ·have HZ:=Qq (show r=12 by rw [uI.out,if_pos rfl]);go_wp2_with fail;go_ret;exact⟨by rw [HZ.out] <;> rfl,X3.out⟩
 rw [if_neg (by simp)]at uI;go_wp2_with fail;refine(Zyt _ _ md f k _ (HM.out.ext X3.out) zE.out (HF.out.ext X3.out) wK.out.symm HK.out).mono ?_;rintro e w4 ⟨rfl,hx⟩;have X4:=Qq (X3.out.trans hx);clear hx;obtain⟨t,ht⟩:∃t,t=(Nc md f).testBit k:=⟨_,rfl⟩;rw [<-ht]at uI⊢;clear ht;cases t
 ·have HZ:=Qq (show r=11 by rw [uI.out,if_neg (by simp)]);go_wp2_with fail;go_ret;exact⟨by rw [HZ.out] <;> rfl,X4.out⟩
 have HZ:=Qq (show r=0 by rw [uI.out,if_pos rfl]);go_wp2_with fail;go_ret;exact⟨by rw [HZ.out] <;> rfl,X4.out⟩
def ShC(lo b:Nat)(wr:World)(md:Md):Prop:=∃A c A' c',wr.heap[b]?=some (.cells #[.int .i64 md.n,.slice A md.val.length c,.slice A' md.rel.length c'] 26 (0,0))/\
 Vs (fun k=>k < lo) wr (fun W=>Jk W (.agg #[.int .i64 md.n,.slice A md.val.length c,.slice A' md.rel.length c']) md)
theorem ShC.ext {lo b:Nat} {w w':World} {md:Md}(h:ShC lo b w md)(he:Qg w w'):ShC lo b w' md:=by
 obtain⟨A,c,A',c',h1,h2⟩:=h;exact⟨A,c,A',c',(he.block (Qn h1)).trans h1,h2.next (Yv.of_ext he) (fun _ _ h=>h)⟩
theorem ShC.put {lo lo' b:Nat} {w:World} {md:Md} {u:Value} {a0 a1 a2:Value}(hu:Vs (fun k=>k < lo') w (fun W=>Jk W u md))(wH:lo<=lo')(hb:b < lo)(hc:w.heap[b]?=some (.cells #[a0,a1,a2] 26 (0,0))):
 ∃A c A' c',u=.agg #[.int .i64 md.n,.slice A md.val.length c,.slice A' md.rel.length c']/\ShC lo b (((w.setCell ⟨b,0,none⟩ (.int .i64 md.n)).setCell ⟨b,1,none⟩ (.slice A md.val.length c)).setCell ⟨b,2,none⟩ (.slice A' md.rel.length c')) md:=by
 obtain⟨vv,vr,rfl,⟨A,c,rfl,_⟩,⟨A',c',rfl,_⟩⟩:=hu.here;refine⟨A,c,A',c',rfl,A,c,A',c',Yn hc _ _ _,hu.keep wH (by simp [World.setCell]) (fun k h1 _=>Kx (by omega) _ _ _)⟩
def Ii(lg:Int)(f:List Nd)(md:Md)(wd:Int)(md':Md)(k':Nat):Prop :=
 (Xm lg f md wd≠0/\md'=⟨0,[],[]⟩/\k'=0)\/(Xm lg f md wd=0/\∃k out:Nat,wd=(k:Int)/\Ni md (2^k) out/\Rj lg f (Vj md (Za out)) (Xc out k) md' k')
theorem Zq7 {k n:Nat}(hk:k < n):Jr (2^k) (Zk n)=true:=Je.2 fun i hi=>by
 rw [Nat.testBit_two_pow,decide_eq_true_iff]at hi;rw [Vz,<-hi,decide_eq_true hk]
theorem Hc(lg:Int)(v vm:Value)(f:List Nd)(md:Md)(wd:Int)(w:World)(hT:Kb w)(h:Yq w v f)(hm:Jk w vm md)(zP:md.ok):
 Calls Tryz.prog 29 #[.int .i64 lg,v,vm,.int .i64 wd] w fun e w'=>∃u md' k',e=.returned (.tuple #[u,.int .i64 ((k':Nat):Int),.int .i64 (Xm lg f md wd)])/\Ii lg f md wd md' k'/\Qg w w'/\Vs (fun k=>k < w.heap.size) w' (fun W=>Jk W u md'):=by
 have HM:=Qq hm;have zE:=Qq zP;have HT:=Qq hT;have HF:=Qq h;obtain⟨vv,vr,rfl,⟨Av,cv,rfl,_⟩,⟨Ar,cr,rfl,_⟩⟩:=hm;obtain⟨Af,cf,rfl,_⟩:=Qc h;obtain⟨N,hN⟩:∃n,n=md.n:=⟨_,rfl⟩;have HN:=Qq hN;rw [<-hN]at HM⊢;obtain⟨lv,LH⟩:∃n,n=md.val.length:=⟨_,rfl⟩;obtain⟨lr,cZ⟩:∃n,n=md.rel.length:=⟨_,rfl⟩;rw [<-LH,<-cZ]at HM⊢;obtain⟨ec,TC⟩:∃z,z=Xm lg f md wd:=⟨_,rfl⟩;have aN:=Qq TC;rw [<-TC];obtain⟨W0,zK⟩:∃W,W=(w.alloc (.cells #[.int .i64 N,.slice Av lv cv,.slice Ar lr cr] 26)).alloc (.cells #[.int .i64 0,.slice none 0 0,.slice none 0 0] 26):=⟨_,rfl⟩;have X0:=Qq (show Qg w W0 by rw [zK];exact(Qz.alloc _).alloc _)
 obtain⟨b,hb⟩:∃b,b=w.heap.size:=⟨_,rfl⟩;have B0:=Qq (show W0.heap[b]?=some (.cells #[.int .i64 N,.slice Av lv cv,.slice Ar lr cr] 26 (0,0)) by rw [zK,hb];exact((Qz.alloc _).block (by simp)).trans (heap_alloc_new _ _));have B1:=Qq (show W0.heap[b+1]?=some (.cells #[.int .i64 0,.slice none 0 0,.slice none 0 0] 26 (0,0)) by
  have h1:=heap_alloc_new (w.alloc (.cells #[.int .i64 N,.slice Av lv cv,.slice Ar lr cr] 26)) (.cells #[.int .i64 0,.slice none 0 0,.slice none 0 0] 26);rw [zK,hb]
  simpa using h1)
 have yB:=Qq (show w.heap.size<=b by omega);clear hT h zP hN LH cZ TC;obtain⟨e0,e1,e2,el⟩:=Zy B0.out;go_enter Tryz.func29,Tryz.ntmps29;go_wp2_with fail;rw [<-zK,<-hb];clear zK hb;go_step3;go_wp2_with fail;refine(Pf lg _ _ f md wd _ (HT.out.ext X0.out) (HF.out.ext X0.out) (HM.out.ext X0.out) zE.out).mono ?_;rintro e w1 ⟨rfl,hx⟩;rw [<-aN.out];have zO:=Qq hx;have wD:=Qq ((hx.block (Qn B1.out)).trans B1.out);clear e0 e1 e2 el hx;by_cases hz:ec=0
 case neg =>
  have zQ:(ec !=0)=true:=by simpa using hz
  have HS:=Qq (show Ii lg f md wd ⟨0,[],[]⟩ 0 from .inl ⟨by rw [<-aN.out];exact hz,rfl,rfl⟩);obtain⟨⟨r0,r1,r2⟩,⟨g0,g1,g2⟩,rl⟩:=Zc wD.out;clear hz;go_wp2_with fail
  (try simp only [Exit.noGoto_ret])
  refine bodyPost_ret (Jd Tryz.results29 _ _ rfl (Jj (Yn wD.out _ _ _)) Tryz.underlying26 rfl (by kernel_rfl)) rfl ?_;exact⟨_,_,0,rfl,HS.out,Yb (X0.out.trans zO.out) (Nat.le_succ_of_le yB.out) _ _ _,fun W _=>Gs _⟩
 subst hz;obtain⟨k,rfl,xY⟩:=Fc.1 aN.out.symm;have uY:=Qq xY;have yZ:=(Zv xY.good.ck).2.1;have uX:=xY.lt;have wI:k < 64:=by omega
 have yV:(k:Int) < 64:=by omega
 have fN:min k 64=k:=by omega
 have qR:=Sg wI;have xC:=Th wI;have FE:=Qq (Zq7 uX);have ZR:=Qq (Tl wI);have uO:=Qq (fun s:Nat=>Qi4 (s:=s) (w:=k) (by omega));obtain⟨tw2,oG⟩:∃z,z=2^k:=⟨_,rfl⟩;rw [<-oG]at qR FE ZR;have gU:=Qq oG;obtain⟨ak,qE⟩:∃z,z=2^k - 1:=⟨_,rfl⟩;rw [<-qE]at xC uO;rw [qR]at xC;have aS:=Qq (show Qm ak by rw [qE,<-oG];exact Nat.lt_of_le_of_lt (Nat.sub_le _ _) ZR.out);obtain⟨e0,e1,e2,el⟩:=Zy ((zO.out.block (Qn B0.out)).trans B0.out);clear xY yZ uX oG qE;go_upto_region 4 with(fail);refine wp_region_held_drew (S:=fun w'=>w'.cell? (⟨b,0,none⟩)=some (.int .i64 N)/\w'.cell? (⟨b,1,none⟩)=some (.slice Av lv cv)/\w'.cell? (⟨b,2,none⟩)=some (.slice Ar lr cr)) (by kernel_rfl) ⟨xc el e0,xc el e1,xc el e2⟩ (fun zZ=> ?_)
 refine tk 0 zZ ?_;refine tk 1 zZ ?_;refine tk 2 zZ ?_;refine wpAnyH_ready (rs:= [3]) (by kernel_rfl) (by simp) ?_;refine AllReadyH.cons rfl (fun K hK=> ?_) AllReadyH.nil;go_simp;refine(Qbh _ md tw2 _ (HT.out.ext (X0.out.trans (zO.out.trans xw))) (HM.out.ext (X0.out.trans (zO.out.trans xw))) zE.out uY.out.good.ck FE.out ZR.out).mono ?_;rintro e w4 ⟨out,rfl,aZ,cM,yI⟩;have hx:Qg w1 w4:=Qg.trans xw yI;have XS:=Qq aZ;have kK:=Qq cM;clear aZ cM yI;go_wp2_with fail;refine hK.out _ _ ⟨xc el e0,xc el e1,xc el e2⟩ (fun zZ=> ?_);clear hK K;refine Qd ?_;refine tk 4 zZ ?_
 refine tk 5 zZ ?_;refine tk 6 zZ ?_;refine tk 7 zZ ?_;refine tk 8 zZ ?_;refine wpAnyH_done (by kernel_rfl) ?_ _;have yP:=Qq (show Qg w1 w4 from hx);clear e0 e1 e2 el zZ hx;have XT:=Qq (show Ni md (2^k) out from by rw [<-gU.out];exact XS.out);have eF:=Qq (Ni.part XT.out uY.out);have uB:=Qq (show Gw md out=0 from by
  have h1:=eF.out.2.2;have h2:out≠0:=fun e=>by
   have:=XT.out.sub k (by rw [Nat.testBit_two_pow];simp);rw [e,Nat.zero_testBit]at this;cases this
  unfold Gw;rw [if_neg (by rw [uY.out.good.ck];simp),if_neg,if_neg h2];rw [show Jr out (Zk md.n.toNat)=true from Je.2 fun i hi=>by rw [Vz,decide_eq_true (Kf h1 hi)]]
  simp)
 obtain⟨e0,e1,e2,el⟩:=Zy (((zO.out.trans yP.out).block (Qn B0.out)).trans B0.out);go_wp2_with fail;refine(Qvl _ md out _ kK.out (HT.out.ext (X0.out.trans (zO.out.trans yP.out))) (HM.out.ext (X0.out.trans (zO.out.trans yP.out))) zE.out uB.out).mono ?_;rintro e w5 ⟨vr,vl,rfl,hx,xQ⟩;have yJ:=Qq (zO.out.trans (yP.out.trans hx));have h05:=X0.out.size;have h15:=zO.out.size;have h45:=yP.out.size;have mL:=Qq ((yJ.out.block (Qn B0.out)).trans B0.out);have XU:=Qq ((yJ.out.block (Qn B1.out)).trans B1.out);obtain⟨A3,c3,KC,_⟩:=xQ.here.2;have lR:=Qn B1.out
 have cJ:=ShC.put (lo:=W0.heap.size) (b:=b) (md:=Vj md (Za out)) (u:=vr) (fun W hW=>(xQ W hW).1) (by omega) (by omega) mL.out;obtain⟨A1,c1,A2,c2,hu,mQ⟩:=cJ;subst hu KC;obtain⟨md1,kC⟩:∃z,z=Vj md (Za out):=⟨_,rfl⟩;have eK:=Qq kC;rw [<-kC]at mQ⊢;have fU:=Qq mQ;obtain⟨⟨q0,q1,q2⟩,⟨f0,f1,f2⟩,ql⟩:=Zc mL.out;obtain⟨l1,mU⟩:∃z,z=md1.n:=⟨_,rfl⟩;obtain⟨l2,qN⟩:∃z,z=md1.val.length:=⟨_,rfl⟩;obtain⟨l3,oK⟩:∃z,z=md1.rel.length:=⟨_,rfl⟩;rw [<-mU,<-qN,<-oK]at fU⊢;have qF:=Xk kK.out aS.out;obtain⟨sk,fJ⟩:∃z,z=out&&&ak:=⟨_,rfl⟩;rw [<-fJ]at qF;have mZ:=Qq (show Xc sk 64=Xc out k by rw [fJ];exact uO.out out)
 have NS:=Qq (show Qm sk by rw [fJ];exact Nat.lt_of_le_of_lt Nat.and_le_right aS.out);have DY:=Qq (show Qg w (((w5.setCell ⟨b,0,none⟩ (.int .i64 l1)).setCell ⟨b,1,none⟩ (.slice A1 l2 c1)).setCell ⟨b,2,none⟩ (.slice A2 l3 c2))from Yb (X0.out.trans yJ.out) yB.out _ _ _);have eW:=Qq (show(((w5.setCell ⟨b,0,none⟩ (.int .i64 l1)).setCell ⟨b,1,none⟩ (.slice A1 l2 c1)).setCell ⟨b,2,none⟩ (.slice A2 l3 c2)).heap[b+1]?=some (.cells #[.int .i64 0,.slice none 0 0,.slice none 0 0] 26 (0,0))from(Kx (by omega) _ _ _).trans XU.out);have ZS:=Qq lR;clear hx xQ mQ e0 e1 e2 el h05 h15 h45 lR kC fJ mU qN oK
 go_wp2_with fail;refine(Qwa sk NS.out _).mono ?_;rintro e w6 ⟨rfl,rfl⟩;rw [mZ.out];clear q0 q1 q2 f0 f1 f2 ql qF xC qR;obtain⟨w6,mM⟩:∃z,z=(((w5.setCell ⟨b,0,none⟩ (.int .i64 l1)).setCell ⟨b,1,none⟩ (.slice A1 l2 c1)).setCell ⟨b,2,none⟩ (.slice A2 l3 c2)):=⟨_,rfl⟩;rw [<-mM]at fU DY eW⊢;have S1:=Qq mM;have pG:=Qq (show Uj lg f md1 (Xc out k) by rw [eK.out];exact eF.out.1);obtain⟨k1,yV⟩:∃z,z=Xc out k:=⟨_,rfl⟩;have lM:=Qq yV;rw [<-yV]at pG⊢;clear mM yV fN wI FE ZR gU aS mZ NS uB;go_wp2_with fail;go_step3;go_wp2_with fail;obtain⟨lo,wH⟩:∃z,z=W0.heap.size:=⟨_,rfl⟩
 have kO:=Qq (show b+1 < lo by rw [wH];exact ZS.out);have eN:=Qq (show lo<=w6.heap.size by rw [wH,S1.out];have:=X0.out.size;have:=yJ.out.size;simp [World.setCell];exact yJ.out.size);rw [<-wH]at fU;clear wH;go_loopw [3] (fun v3 wr=>∃kc:Nat,v3=.int .i64 (kc:Int)/\kc < 64/\Hid (lo<=wr.heap.size/\∃mdc,ShC lo b wr mdc/\Qg w wr/\Uj lg f mdc kc/\wr.heap[b+1]?=some (.cells #[.int .i64 0,.slice none 0 0,.slice none 0 0] 26 (0,0))/\∀md' k',Rj lg f mdc kc md' k'->Rj lg f md1 k1 md' k')) (fun _ wr=>(intOf ((wr.cell? ⟨b,0,none⟩).getD undef)).toNat)
 case atStart=>exact⟨k1,rfl,by have:=pG.out.lt;have:=(Zv pG.out.good.ck).2.1;omega,Qq ⟨eN.out,md1,fU.out,DY.out,pG.out,eW.out,fun _ _ h=>h⟩⟩
 case round =>
  clear fU DY eW ZS pG eF yP yJ mL XU B0 B1 zO wD XS uO eN S1;obtain⟨kc,rfl,LQ,zY⟩:=hrel;obtain⟨LG,mdc,mQ,hx,xY,ZE,fK⟩:=zY.out;have eN:=Qq LG;have fU:=Qq mQ;have HX:=Qq hx;have uY:=Qq xY;have eW:=Qq ZE;have XI:=Qq fK;obtain⟨A,c,A',c',TO,xQ⟩:=mQ;have kV:=Qq TO;have oD:=Qq xQ;obtain⟨xV,TJ,_⟩:=Zv xY.good.ck;obtain⟨n,hn⟩:=Int.eq_ofNat_of_zero_le (show 0<=mdc.n by omega);have lD:mdc.n.toNat=n:=by rw [hn];exact Int.toNat_natCast n
  have vJ:=Qq lD;have yZ:n<=64:=by omega
  have hkcn:kc < n:=by have:=xY.lt;omega
  rw [hn]at kV oD;obtain⟨m2,xO⟩:∃z,z=mdc.val.length:=⟨_,rfl⟩;obtain⟨m3,lQ⟩:∃z,z=mdc.rel.length:=⟨_,rfl⟩;rw [<-xO,<-lQ]at kV oD;clear zY LG hx xY ZE fK TO xQ xV TJ hn lD xO lQ;obtain⟨e0,e1,e2,el⟩:=Zy kV.out;obtain⟨wa,xC⟩:∃v,v=wr:=⟨_,rfl⟩;subst xC;go_wp2_with fail;clear e0 e1 e2 el;go_loopw [3,14] (fun v3 v14 wr=>v3=.int .i64 (kc:Int)/\∃z:Int,v14=.int .i64 z/\ -1<=z/\z < n/\Hid (Qg wa wr/\∀u:Nat,z < u->u < n->u≠kc->Xm lg f (Vo mdc u) (Va kc u:Nat)≠0)) (fun _ v _=>(intOf v+1).toNat)
  case atStart=>exact⟨rfl,(n:Int) - 1,rfl,by omega,by omega,Qq ⟨Qz,fun u h1 h2=>by omega⟩⟩
  case round =>
   obtain⟨rfl,z,rfl,xH,oE,zY⟩:=hrel;have wY:=Qq zY.out.1;have HJ:=Qq zY.out.2;clear zY;obtain⟨e0,e1,e2,el⟩:=Zy ((wY.out.block (Qn kV.out)).trans kV.out);by_cases hz:0<=z
   ·obtain⟨j,rfl⟩:=Int.eq_ofNat_of_zero_le hz;clear hz;by_cases qO:j=kc
    ·have ZA:((j:Int)==(kc:Int))=true:=by rw [qO];simp
     have fZ:=Qq qO;clear qO;go_wp2_with fail;go_roundw
     case rel=>exact⟨by first|rfl|trivial,(j:Int) - 1,rfl,by omega,by omega,Qq ⟨wY.out,fun u h1 h2 h3=>by
      by_cases e:u=j
      ·exact absurd (e.trans fZ.out) h3
      exact HJ.out u (by omega) h2 h3⟩⟩
     case measure=>simp [intOf] <;> omega
    have ZA:((j:Int)==(kc:Int))=false:=by rw [beq_eq_false_iff_ne];omega
    have fZ:=Qq qO;have VC:=Qq (show j < mdc.n.toNat by rw [vJ.out];omega);clear qO;go_wp2_with fail;refine(Qsd _ mdc j kc _ (HT.out.ext (HX.out.trans wY.out)) (oD.out _ (Yv.of_ext wY.out)) (Ck uY.out.good.ck) uY.out.good.ck VC.out uY.out.lt fZ.out).mono ?_;rintro e w3 ⟨u,rfl,zC,QL⟩;have jG:=Qq QL;obtain⟨dr,gQ⟩:∃z,z=Vo mdc j:=⟨_,rfl⟩;have iD:=Qq gQ;have VO:=Qq (show dr.n=(n:Int) - 1 by
     rw [gQ];show((Za (Zl (Zk mdc.n.toNat) (2^j))).length:Int)=_;have h1:=vJ.out;rw [Ed (by omega) VC.out,h1]
     omega)
    rw [<-gQ]at jG QL;obtain⟨_,_,hu,⟨A1,c1,YK,_⟩,⟨A2,c2,bX,_⟩⟩:=QL.here;subst hu YK bX;obtain⟨d1,pZ⟩:∃z,z=dr.val.length:=⟨_,rfl⟩;obtain⟨d2,qP⟩:∃z,z=dr.rel.length:=⟨_,rfl⟩;obtain⟨d0,nP⟩:∃z,z=dr.n:=⟨_,rfl⟩;obtain⟨sw,PV⟩:∃z,z=Va kc j:=⟨_,rfl⟩;have QY:=Qq nP;have JR:=Qq pZ;have aO:=Qq qP;have rD:=Qq PV;rw [<-nP,<-pZ,<-qP]at jG⊢;rw [<-PV];have zB:=Qq (wY.out.trans zC);have qH:=Qq zC.size;clear QL zC gQ nP pZ qP PV e0 e1 e2 el;obtain⟨w5,qS⟩:∃z,z=w3.alloc (.cells #[.int .i64 d0,.slice A1 d1 c1,.slice A2 d2 c2] 26):=⟨_,rfl⟩;have yJ:=Qq (show Qg w3 w5 by rw [qS];exact Qz.alloc _)
    have mL:=Qq (show w5.heap[w3.heap.size]?=some (.cells #[.int .i64 d0,.slice A1 d1 c1,.slice A2 d2 c2] 26 (0,0)) by rw [qS];exact heap_alloc_new _ _);go_upto_region 12 with(fail);rw [<-qS];obtain⟨xb,rR⟩:∃z,z=w3.heap.size:=⟨_,rfl⟩;rw [<-rR]at mL⊢;clear qS rR;obtain⟨e0,e1,e2,el⟩:=Zy mL.out;go_wp2_with fail;refine(Pf lg _ _ f dr sw _ (HT.out.ext (HX.out.trans (zB.out.trans yJ.out))) (HF.out.ext (HX.out.trans (zB.out.trans yJ.out))) (jG.out _ (Yv.of_ext yJ.out)) (by rw [iD.out];exact Ck (Qz0 uY.out.good.ck (by rw [Ed (by have:=vJ.out;omega) VC.out];have:=vJ.out;have:=fZ.out;omega) (Ea _)))).mono ?_
    rintro e w4 ⟨rfl,yA⟩;have yP:=Qq (zB.out.trans (yJ.out.trans yA));have iF:=Qq ((yA.block (Qn mL.out)).trans mL.out);have eT:=Qq (jG.out.next (X':=fun k=>k < wr.heap.size) (Yv.of_ext (yJ.out.trans yA)) (fun _ _ h=>h));clear yA e0 e1 e2 el;obtain⟨c0,oY⟩:∃z,z=Xm lg f dr (sw:Int):=⟨_,rfl⟩;have jJ:=Qq (show Xm lg f (Vo mdc j) (Va kc j:Nat)=c0 by rw [oY,iD.out,rD.out]);rw [<-oY];clear oY;by_cases uG:c0=0
    ·subst uG;obtain⟨e0,e1,e2,el⟩:=Zy iF.out;have wC:=Qq ((yP.out.block (Qn kV.out)).trans kV.out);have eV:=Qq ((yP.out.block (Qn eW.out)).trans eW.out);obtain⟨⟨q0,q1,q2⟩,⟨f0,f1,f2⟩,ql⟩:=Zc wC.out;obtain⟨j2,lS,YP⟩:=Fc.1 jJ.out;obtain rfl:j2=Va kc j:=by omega
     have aF:=Qq YP;have RH:lo<=wr.heap.size:=Qx eN.out wY.out.size;have cJ:=ShC.put (lo:=lo) (b:=b) (md:=dr) (u:=.agg #[.int .i64 d0,.slice A1 d1 c1,.slice A2 d2 c2]) eT.out RH (by have:=kO.out;omega) wC.out;obtain⟨B1',k1',B2',k2',hu,mQ⟩:=cJ;rw [<-QY.out,<-JR.out,<-aO.out]at hu mQ;injection hu with hu;obtain⟨rfl,rfl,rfl,rfl⟩:A1=B1'/\c1=k1'/\A2=B2'/\c2=k2':=by
      injection hu with hu;injection hu with _ hu;injection hu with h1 hu;injection hu with h2 _;injection h1 with a1 _ a2;injection h2 with a3 _ a4;exact⟨a1,a2,a3,a4⟩
     have UI:=Qq mQ;have EQ:=Qq (show lo<=w4.heap.size by have:=yP.out.size;have:=eN.out;omega);have EA:=Qq (show Qg w (((w4.setCell ⟨b,0,none⟩ (.int .i64 d0)).setCell ⟨b,1,none⟩ (.slice A1 d1 c1)).setCell ⟨b,2,none⟩ (.slice A2 d2 c2))from Yb (HX.out.trans yP.out) yB.out _ _ _);have fA:=Qq (show(((w4.setCell ⟨b,0,none⟩ (.int .i64 d0)).setCell ⟨b,1,none⟩ (.slice A1 d1 c1)).setCell ⟨b,2,none⟩ (.slice A2 d2 c2)).heap[b+1]?=some (.cells #[.int .i64 0,.slice none 0 0,.slice none 0 0] 26 (0,0))from(Kx (by omega) _ _ _).trans eV.out);clear lS YP mQ hu RH;have eH:=Qq (show Uj lg f dr sw by rw [iD.out,rD.out];exact aF.out)
     have pE:=Qq (Zy (Yn wC.out (.int .i64 d0) (.slice A1 d1 c1) (.slice A2 d2 c2))).1;have wE:=Qq (Zy kV.out).1;go_wp2_with fail;refine⟨⟨sw,rfl,?_,Qq ⟨by simpa [World.setCell]using EQ.out,dr,UI.out,EA.out,eH.out,fA.out,fun md' k' h=>XI.out md' k' (.step VC.out fZ.out jJ.out (fun u h1 h2 h3=>HJ.out u (by omega) (by rw [<-vJ.out];exact h2) h3) (by rw [<-iD.out,<-rD.out];exact h))⟩⟩,?_⟩
     ·rw [rD.out];unfold Va
      split <;> omega
     rw [pE.out,wE.out];show(d0:Int).toNat < ((n:Nat):Int).toNat;rw [QY.out,VO.out];omega
    have zQ:(c0==0)=false:=by rw [beq_eq_false_iff_ne];exact uG
    have GQ:=Qq uG;clear uG;go_wp2_with fail;go_roundw
    case rel=>exact⟨by first|rfl|trivial,(j:Int) - 1,rfl,by omega,by omega,Qq ⟨yP.out,fun u h1 h2 h3=>by
     by_cases e:u=j
     ·rw [e,jJ.out];exact GQ.out
     exact HJ.out u (by omega) h2 h3⟩⟩
    case measure=>simp [intOf] <;> omega
   obtain rfl:z= -1:=by omega
   have eV:=Qq ((wY.out.block (Qn eW.out)).trans eW.out);obtain⟨⟨q0,q1,q2⟩,⟨f0,f1,f2⟩,ql⟩:=Zc eV.out;have kJ:=Qq (show Ii lg f md (k:Int) mdc kc from .inr ⟨aN.out.symm,k,out,rfl,XT.out,by
    rw [<-eK.out,<-lM.out];exact XI.out _ _ (.done fun u h1 h2=>HJ.out u (by omega) (by rw [<-vJ.out];exact h1) h2)⟩)
   have JP:=Qq (oD.out.next (X':=fun k=>k < lo) (Yv.of_ext wY.out) (fun _ _ h=>h));have FT:=Qq (show w.heap.size<=lo by have:=yB.out;have:=kO.out;omega);have wB:=Qq (show Vs (fun k=>k < w.heap.size) (((wr.setCell ⟨b+1,0,none⟩ (.int .i64 (n:Int))).setCell ⟨b+1,1,none⟩ (.slice A m2 c)).setCell ⟨b+1,2,none⟩ (.slice A' m3 c')) (fun W=>Jk W (.agg #[.int .i64 (n:Int),.slice A m2 c,.slice A' m3 c']) mdc)from JP.out.keep FT.out (by simp [World.setCell]) (fun k h1 _=>Kx (by have:=kO.out;omega) _ _ _));clear hz;go_wp2_with fail
   (try simp only [Exit.noGoto_ret])
   refine bodyPost_ret (Jd Tryz.results29 _ _ rfl (Jj (Yn eV.out _ _ _)) Tryz.underlying26 rfl (by kernel_rfl)) rfl ?_;exact⟨_,mdc,kc,rfl,kJ.out,Yb (HX.out.trans wY.out) (by have:=yB.out;omega) _ _ _,wB.out⟩
theorem Qrd {k:Nat}(h:k<=12):IntKind.i64.wrap ((2:Int)^k)=((2^k:Nat):Int):=by
 have e:∀k:Fin 13,IntKind.i64.wrap ((2:Int)^k.val)=((2^k.val:Nat):Int):=by decide+kernel
 exact e ⟨k,by omega⟩
theorem Qnr(N A V K:Nat)(w:World)(Q7:1<=N)(hN:N<=64)(hA:A<=4)(hV:V<=8)(ZJ:Yd N A V<=12)(hK:K < 2^Yd N A V):
 Calls Tryz.prog 34 #[.int .i64 (N:Int),.int .i64 (A:Int),.int .i64 (V:Int),.int .i64 (K:Int)] w fun e w'=>∃u,e=.returned (.tuple #[u,.int .i64 0])/\Qg w w'/\Vs (fun q=>q < w.heap.size) w' (fun W=>Jk W u (Bl N A V K)):=by
 obtain⟨W0,zK⟩:∃W,W=w.alloc (.cells #[.int .i64 0,.slice none 0 0,.slice none 0 0] 26):=⟨_,rfl⟩;have X0:=Qq (show Qg w W0 by rw [zK];exact Qz.alloc _);obtain⟨b,hb⟩:∃b,b=w.heap.size:=⟨_,rfl⟩;have B0:=Qq (show W0.heap[b]?=some (.cells #[.int .i64 0,.slice none 0 0,.slice none 0 0] 26 (0,0)) by rw [zK,hb];exact heap_alloc_new _ _);have yB:=Qq (show w.heap.size<=b by omega);have h1:¬(N:Int) < 1:=by omega
 have h2:¬(64:Int) < (N:Int):=by omega
 have h3:¬(A:Int) < 0:=by omega
 have h4:¬(4:Int) < (A:Int):=by omega
 have h5:¬(V:Int) < 0:=by omega
 have h6:¬(8:Int) < (V:Int):=by omega
 have aJ:=Qq (Qqo N A V hN hA hV);have hH:=Qq (fun W=>Qjc N A V K W Q7 hN hA hV ZJ hK);obtain⟨L,hL⟩:∃z,z=Yd N A V:=⟨_,rfl⟩;have HK:=Qq hK;rw [<-hL]at aJ ZJ HK;clear hL hK;have hq:¬(12:Int) < (L:Int):=by omega
 have nJ:min L 64=L:=by omega
 have sT:2^L<=4096:=show 2^L<=2^12 from Nat.pow_le_pow_right (by decide) ZJ
 have vS:wrap64 ((2:Int)^L)=((2^L:Nat):Int):=by
  rw [show(2:Int)^L=((2^L:Nat):Int) by simp];exact Wk (by omega)
 have xN:IntKind.i64.wrap ((2:Int)^L)=((2^L:Nat):Int):=Qrd ZJ;obtain⟨P,hP⟩:∃z,z=2^L:=⟨_,rfl⟩;rw [<-hP]at vS xN sT HK;clear hP;have hK:=HK.out;have k1:¬(K:Int) < 0:=by omega
 have k2:¬(P:Int)<=K:=by omega
 go_enter Tryz.func34,Tryz.ntmps34;go_upto_region 1 with(fail);rw [<-zK,<-hb];clear zK hb;go_wp2_with fail;refine(aJ.out _).mono ?_;rintro e w1 ⟨rfl,rfl⟩;go_wp2_with fail;refine(hH.out _).mono ?_;rintro e w2 ⟨u,rfl,hf,hx⟩;have HF:=Qq hf;have HX:=Qq hx;obtain⟨_,_,hu,⟨A1,c1,YK,_⟩,⟨A2,c2,bX,_⟩⟩:=hf.here;subst hu YK bX;obtain⟨d1,pZ⟩:∃z,z=(Bl N A V K).val.length:=⟨_,rfl⟩;obtain⟨d2,qP⟩:∃z,z=(Bl N A V K).rel.length:=⟨_,rfl⟩;obtain⟨d0,nP⟩:∃z,z=(Bl N A V K).n:=⟨_,rfl⟩;rw [<-nP,<-pZ,<-qP]at HF⊢;have rG:=Qq ((hx.block (Qn B0.out)).trans B0.out);obtain⟨⟨q0,q1,q2⟩,⟨f0,f1,f2⟩,ql⟩:=Zc rG.out
 have sM:=Qq (Qn B0.out)
 have wB:=Qq (show Vs (fun q=>q < w.heap.size) (((w2.setCell ⟨b,0,none⟩ (.int .i64 d0)).setCell ⟨b,1,none⟩ (.slice A1 d1 c1)).setCell ⟨b,2,none⟩ (.slice A2 d2 c2)) (fun W=>Jk W (.agg #[.int .i64 d0,.slice A1 d1 c1,.slice A2 d2 c2]) (Bl N A V K))from
  HF.out.keep X0.out.size (by simp [World.setCell]) (fun k h1 _=>Kx (by have:=sM.out;omega) _ _ _))
 clear hf hx nP pZ qP;go_wp2_with fail
 (try simp only [Exit.inBlock,Exit.then])
 refine bodyPost_ret (Fz Tryz.results34 _ _ rfl (Jj (Yn rG.out _ _ _)) Tryz.underlying26 rfl (by kernel_rfl)) rfl ?_;exact⟨_,rfl,Yb (X0.out.trans HX.out) yB.out _ _ _,wB.out⟩
def Sa(f:List Nd):Nat:=Ye (Jl (Qf f))
def Se(f:List Nd):Nat:=Ye (Yy (Qf f))
def Ll(lg:Int)(f:List Nd)(n k:Nat):Prop:=(∀m j,1<=m->m < n->j < 2^Yd m (Sa f) (Se f)->Xm lg f (Bl m (Sa f) (Se f) j) 0≠0)/\∀j,j < k->Xm lg f (Bl n (Sa f) (Se f) j) 0≠0
def Cs(lg:Int)(f:List Nd)(most:Int)(md:Md)(er:Int):Prop :=
 (er≠0/\md=⟨0,[],[]⟩/\(((lg < 0\/6 < lg)/\er=1)\/((0<=lg/\lg<=6)/\((check f≠0/\er=check f)\/(check f=0/\((Jr (Jp f) 15=false/\er=10)\/(Jr (Jp f) 15=true/\(((most < 1\/64 < most)/\er=2)\/
  ((1<=most/\most<=64)/\((12 < Yd most.toNat (Sa f) (Se f)/\er=8)\/(Yd most.toNat (Sa f) (Se f)<=12/\er=6/\Ll lg f (most.toNat+1) 0)))))))))))\/
 (er=0/\(0<=lg/\lg<=6)/\check f=0/\Jr (Jp f) 15=true/\(1<=most/\most<=64)/\Yd most.toNat (Sa f) (Se f)<=12/\
  ∃n k,1<=n/\n<=most.toNat/\k < 2^Yd n (Sa f) (Se f)/\md=Bl n (Sa f) (Se f) k/\Xm lg f md 0=0/\Ll lg f n k)
theorem Qwg {n m a v:Nat}(h:n<=m):Yd n a v<=Yd m a v:=Nat.add_le_add (Nat.mul_le_mul_right _ h) (Nat.mul_le_mul_right _ (Nat.mul_le_mul h h))
theorem Ll.step {lg:Int} {f:List Nd} {n k:Nat}(h:Ll lg f n k)(hc:Xm lg f (Bl n (Sa f) (Se f) k) 0≠0):Ll lg f n (k+1):=
 ⟨h.1,fun j hj=>by
  by_cases e:j=k
  ·rw [e];exact hc
  exact h.2 j (by omega)⟩
theorem Ll.turn {lg:Int} {f:List Nd} {n:Nat}(h:Ll lg f n (2^Yd n (Sa f) (Se f))):Ll lg f (n+1) 0 :=
 ⟨fun m j h1 h2 hj=>by
  by_cases e:m=n
  ·subst e;exact h.2 j hj
  exact h.1 m j h1 (by omega) hj,fun j hj=>absurd hj (by omega)⟩
theorem Pj {w w':World} {er:Int} {lg most:Int} {f:List Nd} {md:Md} {e:Ending}(he:e=.returned (.tuple #[.agg #[.int .i64 0,.slice none 0 0,.slice none 0 0],.int .i64 er]))(hm:md=⟨0,[],[]⟩)(hx:Qg w w')(h:Cs lg f most md er):
 ∃u md er,e=.returned (.tuple #[u,.int .i64 er])/\Cs lg f most md er/\Qg w w'/\Vs (fun q=>q < w.heap.size) w' (fun W=>Jk W u md):=
 ⟨_,md,er,he,h,hx,fun W _=>by rw [hm];exact Gs _⟩
theorem Qfn(lg:Int)(v:Value)(f:List Nd)(most:Int)(w:World)(hT:Kb w)(h:Yq w v f):
 Calls Tryz.prog 32 #[.int .i64 lg,v,.int .i64 most] w fun e w'=>∃u md er,e=.returned (.tuple #[u,.int .i64 er])/\Cs lg f most md er/\Qg w w'/\Vs (fun q=>q < w.heap.size) w' (fun W=>Jk W u md):=by
 have HT:=Qq hT;have HF:=Qq h;obtain⟨Af,cf,rfl,_⟩:=Qc h;obtain⟨ck,zU⟩:∃z,z=check f:=⟨_,rfl⟩;have yD:=Qq zU;obtain⟨W0,zK⟩:∃W,W=w.alloc (.cells #[.int .i64 0,.slice none 0 0,.slice none 0 0] 26):=⟨_,rfl⟩;have X0:=Qq (show Qg w W0 by rw [zK];exact Qz.alloc _);obtain⟨b,hb⟩:∃b,b=w.heap.size:=⟨_,rfl⟩;have B0:=Qq (show W0.heap[b]?=some (.cells #[.int .i64 0,.slice none 0 0,.slice none 0 0] 26 (0,0)) by rw [zK,hb];exact heap_alloc_new _ _);have yB:=Qq (show w.heap.size<=b by omega);obtain⟨lo,wH⟩:∃z,z=decide (0<=lg/\lg<=6):=⟨_,rfl⟩;have lL:=Qq wH;clear hT h zU;go_enter Tryz.func32,Tryz.ntmps32
 go_upto_region 1 with(fail);rw [<-zK,<-hb];clear zK hb;go_wp2_with fail;refine(Ow lg _).mono ?_;rintro e w1 ⟨rfl,rfl⟩;rw [<-wH];clear wH;obtain⟨⟨r0,r1,r2⟩,⟨g0,g1,g2⟩,rl⟩:=Zc B0.out;cases lo
 ·have HS:=Qq (show Cs lg f most ⟨0,[],[]⟩ 1 from .inl ⟨by decide,rfl,.inl ⟨by have:=of_decide_eq_false lL.out.symm;omega,rfl⟩⟩);go_wp2_with fail
  (try simp only [Exit.inBlock,Exit.then])
  refine bodyPost_ret (Fz Tryz.results32 _ _ rfl (Jj (Yn B0.out _ _ _)) Tryz.underlying26 rfl (by kernel_rfl)) rfl ?_;exact Pj rfl rfl (Yb X0.out yB.out _ _ _) HS.out
 have oB:=Qq (of_decide_eq_true lL.out.symm);clear r0 r1 r2 g0 g1 g2 rl lL;go_wp2_with fail;refine(Vw _ f _ (HF.out.ext X0.out).1).mono ?_;rintro e w2 ⟨rfl,hx⟩;rw [<-yD.out];have S2:=Qq hx;have B2:=Qq ((hx.block (Qn B0.out)).trans B0.out);obtain⟨⟨r0,r1,r2⟩,⟨g0,g1,g2⟩,rl⟩:=Zc B2.out;clear hx;by_cases hz:ck=0
 case neg =>
  have zQ:(ck !=0)=true:=by simpa using hz
  have HS:=Qq (show Cs lg f most ⟨0,[],[]⟩ ck from .inl ⟨hz,rfl,.inr ⟨oB.out,.inl ⟨by rw [<-yD.out];exact hz,yD.out⟩⟩⟩);clear hz;go_wp2_with fail
  (try simp only [Exit.inBlock,Exit.then])
  refine bodyPost_ret (Fz Tryz.results32 _ _ rfl (Jj (Yn B2.out _ _ _)) Tryz.underlying26 rfl (by kernel_rfl)) rfl ?_;exact Pj rfl rfl (Yb (X0.out.trans S2.out) yB.out _ _ _) HS.out
 subst hz;clear r0 r1 r2 g0 g1 g2 rl;go_wp2_with fail;refine(Rp _ f _ (HF.out.ext (X0.out.trans S2.out))).mono ?_;rintro e w3 ⟨rfl,hx⟩;have S3:=Qq (S2.out.trans hx);have B3:=Qq ((S3.out.block (Qn B0.out)).trans B0.out);obtain⟨⟨r0,r1,r2⟩,⟨g0,g1,g2⟩,rl⟩:=Zc B3.out;obtain⟨vS,xN⟩:=Pt f;clear hx vS;cases hsb:Jr (Jp f) 15
 ·rw [hsb]at xN;have HS:=Qq (show Cs lg f most ⟨0,[],[]⟩ 10 from .inl ⟨by decide,rfl,.inr ⟨oB.out,.inr ⟨yD.out.symm,.inl ⟨hsb,rfl⟩⟩⟩⟩);clear hsb;go_wp2_with fail
  (try simp only [Exit.inBlock,Exit.then])
  refine bodyPost_ret (Fz Tryz.results32 _ _ rfl (Jj (Yn B3.out _ _ _)) Tryz.underlying26 rfl (by kernel_rfl)) rfl ?_;exact Pj rfl rfl (Yb (X0.out.trans S3.out) yB.out _ _ _) HS.out
 rw [hsb]at xN;have fV:=Qq hsb;clear hsb;by_cases WT:most < 1\/64 < most
 ·have HS:=Qq (show Cs lg f most ⟨0,[],[]⟩ 2 from .inl ⟨by decide,rfl,.inr ⟨oB.out,.inr ⟨yD.out.symm,.inr ⟨fV.out,.inl ⟨WT,rfl⟩⟩⟩⟩⟩);have RO:most < 1\/(¬most < 1/\64 < most):=by omega
  clear WT;rcases RO with m1|⟨m1,m2⟩ <;>
  ·go_wp2_with fail
   (try simp only [Exit.inBlock,Exit.then])
   refine bodyPost_ret (Fz Tryz.results32 _ _ rfl (Jj (Yn B3.out _ _ _)) Tryz.underlying26 rfl (by kernel_rfl)) rfl ?_;exact Pj rfl rfl (Yb (X0.out.trans S3.out) yB.out _ _ _) HS.out
 have m1:¬most < 1:=fun h=>WT (.inl h)
 have m2:¬64 < most:=fun h=>WT (.inr h)
 obtain⟨M,rfl⟩:=Int.eq_ofNat_of_zero_le (show 0<=most by omega);have hM1:1<=M:=by omega
 have DL:M<=64:=by omega
 have rW:=Qq (show 1<=((M:Nat):Int)/\((M:Nat):Int)<=64 by omega);have hh:=(Jb yD.out.symm).2.2.2;have uZ:=Ry (Qf f) 0 hh (by decide);have lV:=Tb (Qf f) 0 hh (by decide);obtain⟨am,dO⟩:∃x,x=Jl (Qf f):=⟨_,rfl⟩;obtain⟨fm,nN⟩:∃x,x=Yy (Qf f):=⟨_,rfl⟩;rw [show(Qf f).foldl Tq 0=am from dO.symm]at uZ;rw [show(Qf f).foldl Tz 0=fm from nN.symm]at lV;have RA:=Qq dO;have gD:=Qq nN;have xC:IntKind.u64.wrap (am:Int)=(am:Int):=by rw [IntKind.wrap_u64];omega
 have kY:IntKind.u64.wrap (fm:Int)=(fm:Int):=by rw [IntKind.wrap_u64];omega
 have mC:=Qyo uZ;have kH:=Qyo lV;have gE:=Qq (show am < 256 by omega);have kS:=Qq (show fm < 256 by omega);clear WT hh dO nN uZ lV r0 r1 r2 g0 g1 g2 rl;go_wp2_with fail;refine(Ot _ f _ (HF.out.ext (X0.out.trans S3.out)) yD.out.symm).mono ?_;rintro e w5 ⟨rfl,hx⟩;rw [<-RA.out];have S5:=Qq (S3.out.trans hx);clear hx;go_wp2_with fail;refine(Qy0 am gE.out _).mono ?_;rintro e w6 ⟨rfl,rfl⟩;go_wp2_with fail;refine(Qqs _ f _ (HF.out.ext (X0.out.trans S5.out)) yD.out.symm).mono ?_;rintro e w7 ⟨rfl,hx⟩;rw [<-gD.out];have S7:=Qq (S5.out.trans hx);clear hx;go_wp2_with fail
 refine(Qy0 fm kS.out _).mono ?_;rintro e w8 ⟨rfl,rfl⟩;obtain⟨A,hA⟩:∃z,z=Ye am:=⟨_,rfl⟩;obtain⟨V,hV⟩:∃z,z=Ye fm:=⟨_,rfl⟩;have PP:=Qq (show A=Sa f by rw [hA,RA.out];rfl);have EH:=Qq (show V=Se f by rw [hV,gD.out];rfl);rw [<-hA]at mC⊢;rw [<-hV]at kH⊢;clear hA hV xC kY;go_wp2_with fail;refine(Qqo M A V DL mC kH _).mono ?_;rintro e w9 ⟨rfl,rfl⟩;have sH:=Qq (show Yd M A V=Yd ((M:Nat):Int).toNat (Sa f) (Se f) by rw [Int.toNat_natCast,PP.out,EH.out]);have U3:=Qq (fun n (h:n<=M)=>Qwg (a:=A) (v:=V) h);obtain⟨L,hL⟩:∃z,z=Yd M A V:=⟨_,rfl⟩;rw [<-hL]at sH U3⊢
 clear hL;have B7:=Qq ((S7.out.block (Qn B0.out)).trans B0.out);by_cases h12:12 < L
 ·have hq:(12:Int) < (L:Int):=by omega
  have HS:=Qq (show Cs lg f ((M:Nat):Int) ⟨0,[],[]⟩ 8 from .inl ⟨by decide,rfl,.inr ⟨oB.out,.inr ⟨yD.out.symm,.inr ⟨fV.out,.inr ⟨rW.out,.inl ⟨by rw [<-sH.out];exact h12,rfl⟩⟩⟩⟩⟩⟩);obtain⟨⟨r0,r1,r2⟩,⟨g0,g1,g2⟩,rl⟩:=Zc B7.out;clear h12;go_wp2_with fail
  (try simp only [Exit.inBlock,Exit.then])
  refine bodyPost_ret (Fz Tryz.results32 _ _ rfl (Jj (Yn B7.out _ _ _)) Tryz.underlying26 rfl (by kernel_rfl)) rfl ?_;exact Pj rfl rfl (Yb (X0.out.trans S7.out) yB.out _ _ _) HS.out
 have hq:¬(12:Int) < (L:Int):=by omega
 have UZ:=Qq (show L<=12 by omega);clear h12;go_wp2_with fail;have NU:=Qq (show((M:Nat):Int).toNat=M from Int.toNat_natCast M);rw [NU.out]at sH;go_loopw [11] (fun v wr=>∃n:Nat,v=.int .i64 (n:Int)/\1<=n/\n<=M+1/\Hid (Qg W0 wr/\Ll lg f n 0)) (fun v _=>M+1 - (intOf v).toNat)
 case atStart=>exact⟨1,rfl,Nat.le_refl _,by omega,Qq ⟨S7.out,fun m j h1 h2=>by omega,fun j hj=>absurd hj (by omega)⟩⟩
 case round =>
  obtain⟨n,rfl,wU,hnM,zY⟩:=hrel;have HX:=Qq zY.out.1;have HN:=Qq zY.out.2;clear zY;by_cases zJ:n<=M
  ·have yV:(n:Int)<=(M:Int):=by omega
   have yZ:n<=64:=by omega
   have dC:Yd n A V<=12:=Qx (U3.out n zJ) UZ.out;have hH:=Qq (fun k W h=>Qjc n A V k W wU yZ mC kH dC h);have bN:=Qq (show Yd n A V=Yd n (Sa f) (Se f) by rw [PP.out,EH.out]);have nJ:min (Yd n A V) 64=Yd n A V:=by omega
   have sT:2^Yd n A V<=4096:=show 2^Yd n A V<=2^12 from Nat.pow_le_pow_right (by decide) dC
   have xN:IntKind.i64.wrap ((2:Int)^Yd n A V)=((2^Yd n A V:Nat):Int):=Qrd dC;have vS:wrap64 ((2:Int)^Yd n A V)=((2^Yd n A V:Nat):Int):=by
    rw [show(2:Int)^Yd n A V=((2^Yd n A V:Nat):Int) by simp];exact Wk (Nat.lt_of_le_of_lt sT (by decide))
   have uN:=Qq (Qqo n A V yZ mC kH);obtain⟨ln,IK⟩:∃z,z=Yd n A V:=⟨_,rfl⟩;rw [<-IK]at hH bN nJ sT vS xN uN dC;obtain⟨P,hP⟩:∃z,z=2^ln:=⟨_,rfl⟩;rw [<-hP]at hH sT vS xN;have HP:=Qq (show P=2^Yd n (Sa f) (Se f) by rw [hP,bN.out]);clear IK hP;go_wp2_with fail;refine(uN.out _).mono ?_;rintro e w2 ⟨rfl,rfl⟩;go_wp2_with fail;go_loopw [60] (fun v wr=>∃k:Nat,v=.int .i64 (k:Int)/\k<=P/\Hid (Qg W0 wr/\Ll lg f n k)) (fun v _=>P - (intOf v).toNat)
   case atStart=>exact⟨0,rfl,Nat.zero_le _,Qq ⟨HX.out,HN.out⟩⟩
   case round =>
    clear HX HN;obtain⟨k,rfl,hkP,zY⟩:=hrel;have HX:=Qq zY.out.1;have HN:=Qq zY.out.2;clear zY;by_cases wR:k < P
    ·have wV:(k:Int) < (P:Int):=Int.ofNat_lt.2 wR;go_wp2_with fail;refine(hH.out k _ wR).mono ?_;rintro e w3 ⟨u,rfl,hf,hx⟩;have jG:=Qq hf;have zB:=Qq hx;obtain⟨_,_,hu,⟨A1,c1,YK,_⟩,⟨A2,c2,bX,_⟩⟩:=hf.here;subst hu YK bX;obtain⟨dr,gQ⟩:∃z,z=Bl n A V k:=⟨_,rfl⟩;have iD:=Qq (show dr=Bl n (Sa f) (Se f) k by rw [gQ,PP.out,EH.out]);have GO:=Qq (show dr.ok by rw [gQ];exact Ck (Qhn wU yZ mC kH));rw [<-gQ]at jG⊢;obtain⟨d1,pZ⟩:∃z,z=dr.val.length:=⟨_,rfl⟩;obtain⟨d2,qP⟩:∃z,z=dr.rel.length:=⟨_,rfl⟩;obtain⟨d0,nP⟩:∃z,z=dr.n:=⟨_,rfl⟩;rw [<-nP,<-pZ,<-qP]at jG⊢;obtain⟨w5,qS⟩:∃z,z=w3.alloc (.cells #[.int .i64 d0,.slice A1 d1 c1,.slice A2 d2 c2] 26):=⟨_,rfl⟩
     have yJ:=Qq (show Qg w3 w5 by rw [qS];exact Qz.alloc _);have mL:=Qq (show w5.heap[w3.heap.size]?=some (.cells #[.int .i64 d0,.slice A1 d1 c1,.slice A2 d2 c2] 26 (0,0)) by rw [qS];exact heap_alloc_new _ _);clear hf hx gQ nP pZ qP;go_upto_region 20 with(fail);rw [<-qS];obtain⟨xb,rR⟩:∃z,z=w3.heap.size:=⟨_,rfl⟩;rw [<-rR]at mL⊢;clear qS rR;obtain⟨e0,e1,e2,el⟩:=Zy mL.out;go_wp2_with fail;refine(Pf lg _ _ f dr 0 _ (HT.out.ext (X0.out.trans (HX.out.trans (zB.out.trans yJ.out)))) (HF.out.ext (X0.out.trans (HX.out.trans (zB.out.trans yJ.out)))) (jG.out _ (Yv.of_ext yJ.out)) GO.out).mono ?_
     rintro e w4 ⟨rfl,yA⟩;have yP:=Qq (HX.out.trans (zB.out.trans (yJ.out.trans yA)));have iF:=Qq ((yA.block (Qn mL.out)).trans mL.out);have eT:=Qq (jG.out.next (X':=fun q=>q < wr.heap.size) (Yv.of_ext (yJ.out.trans yA)) (fun _ _ h=>h));clear yA e0 e1 e2 el;obtain⟨c0,oY⟩:∃z,z=Xm lg f dr 0:=⟨_,rfl⟩;have jJ:=Qq oY;rw [<-oY];clear oY;by_cases uG:c0=0
     ·subst uG;obtain⟨e0,e1,e2,el⟩:=Zy iF.out;have wD:=Qq ((yP.out.block (Qn B0.out)).trans B0.out);obtain⟨⟨r0,r1,r2⟩,⟨g0,g1,g2⟩,rl⟩:=Zc wD.out;have HS:=Qq (show Cs lg f ((M:Nat):Int) dr 0 from .inr ⟨rfl,oB.out,yD.out.symm,fV.out,rW.out,by rw [NU.out,<-sH.out];exact UZ.out,n,k,wU,by rw [NU.out];exact zJ,by rw [<-HP.out];exact wR,iD.out,jJ.out.symm,HN.out⟩);have C6:=Qq (show b < wr.heap.size from Qy (Qn B0.out) HX.out.size);have EE:=Qq (show w.heap.size<=wr.heap.size from Qx X0.out.size HX.out.size)
      have wB:=Qq (show Vs (fun q=>q < w.heap.size) (((w4.setCell ⟨b,0,none⟩ (.int .i64 d0)).setCell ⟨b,1,none⟩ (.slice A1 d1 c1)).setCell ⟨b,2,none⟩ (.slice A2 d2 c2)) (fun W=>Jk W (.agg #[.int .i64 d0,.slice A1 d1 c1,.slice A2 d2 c2]) dr)from
       eT.out.keep EE.out (by simp [World.setCell]) (fun q h1 _=>Kx (by have:=C6.out;omega) _ _ _))
      go_wp2_with fail
      (try simp only [Exit.inBlock,Exit.then])
      refine bodyPost_ret (Fz Tryz.results32 _ _ rfl (Jj (Yn wD.out _ _ _)) Tryz.underlying26 rfl (by kernel_rfl)) rfl ?_;exact⟨_,dr,0,rfl,HS.out,Yb (X0.out.trans yP.out) yB.out _ _ _,wB.out⟩
     have zQ:(c0==0)=false:=by rw [beq_eq_false_iff_ne];exact uG
     have zD:=Qq (HN.out.step (by rw [<-iD.out,<-jJ.out];exact uG));clear uG;go_wp2_with fail;go_roundw
     case rel=>exact⟨k+1,by go_num,wR,Qq ⟨yP.out,zD.out⟩⟩
     case measure=>simp [intOf] <;> omega
    obtain rfl:P=k:=Nat.le_antisymm (Nat.le_of_not_lt wR) hkP;have vJ:=Qq (show Ll lg f (n+1) 0 from by have:=HN.out;rw [HP.out]at this;exact this.turn);clear wR;go_wp2_with fail;go_roundw
    case rel=>exact⟨n+1,by go_num,by omega,by omega,Qq ⟨HX.out,vJ.out⟩⟩
    case measure=>simp [intOf] <;> omega
  obtain rfl:n=M+1:=by omega
  have HS:=Qq (show Cs lg f ((M:Nat):Int) ⟨0,[],[]⟩ 6 from .inl ⟨by decide,rfl,.inr ⟨oB.out,.inr ⟨yD.out.symm,.inr ⟨fV.out,.inr ⟨rW.out,.inr ⟨by rw [NU.out,<-sH.out];exact UZ.out,rfl,by rw [NU.out];exact HN.out⟩⟩⟩⟩⟩⟩);have wD:=Qq ((HX.out.block (Qn B0.out)).trans B0.out);obtain⟨⟨r0,r1,r2⟩,⟨g0,g1,g2⟩,rl⟩:=Zc wD.out;have yV:¬(((M+1:Nat):Int)<=(M:Int)):=by omega
  go_wp2_with fail
  (try simp only [Exit.inBlock,Exit.then])
  refine bodyPost_ret (Fz Tryz.results32 _ _ rfl (Jj (Yn wD.out _ _ _)) Tryz.underlying26 rfl (by kernel_rfl)) rfl ?_;exact Pj rfl rfl (Yb (X0.out.trans HX.out) yB.out _ _ _) HS.out
end Go.Proofs.YtkmclcmnoicagaaGreatDoor
